/-
  DERIVED. GIVEN WITH THE SEED: THE CARDS: each row of YtggjphcikcflkaaDoorRows.lean that lists a variable, with what it lists TIED to the program's text (the seventh form; the later family's looks); each row that meets fmt, with fmt's text TOLD by the authors' own Lean function (tested against real Go, not proved from fmt's source: count such statements apart). THE CARD IS WHAT COUNTS. Prove the row's statement (the work); the ties are given (YtggjphcikcflkaaDoorTie.lean); close each card by the builder's one call (the guide's Derived/Test/ToyasCard.lean, 'card_holds'). Laid BY PROGRAM, IN A SANDBOX (cutbox-door.mjs). By AI agents, Wed Nov 11 2026. No macro, syntax, notation, axiom, sorry.
-/
import Derived.Test.YtggjphcikcflkaaDoorRows
import GoSem.ClaimSeven
namespace Go.Proofs.YtggjphcikcflkaaDoor
namespace Rows

/-- THE TIED CARD OF 'supercargolaw01.MoneyScales'. -/
def moneyScalesCard : Claim7 := { stood := { row := moneyScalesRow, standIns := [], harness := (true, "54ac33948091d4c194ff88725d1fa59263d725a5c3042eebdc3aa3738a8bbf4a"), looks := true }, kinds := [], alts := [], laidByText := true, laidKinds := [.data, .data, .data, .data, .sentinel, .sentinel, .pinned], laidTests := true, laidLooks := .later }
def MoneyScalesCardSaid : Prop := Claim7.holds Tryd.pinned (.plain (OpenSpec.ofChange moneyScalesSpec)) moneyScalesCard

/-- THE TIED CARD OF 'supercargolaw01.MoneyRounds'. -/
def moneyRoundsCard : Claim7 := { stood := { row := moneyRoundsRow, standIns := [], harness := (true, "54ac33948091d4c194ff88725d1fa59263d725a5c3042eebdc3aa3738a8bbf4a"), looks := true }, kinds := [], alts := [], laidByText := true, laidKinds := [.data, .data, .data, .data, .sentinel, .sentinel, .pinned], laidTests := true, laidLooks := .later }
def MoneyRoundsCardSaid : Prop := Claim7.holds Tryd.pinned (.plain (OpenSpec.ofChange moneyRoundsSpec)) moneyRoundsCard

/-- THE TIED CARD OF 'supercargolaw01.MoneyParts'. -/
def moneyPartsCard : Claim7 := { stood := { row := moneyPartsRow, standIns := [], harness := (true, "54ac33948091d4c194ff88725d1fa59263d725a5c3042eebdc3aa3738a8bbf4a"), looks := true }, kinds := [], alts := [], laidByText := true, laidKinds := [.data, .data, .data, .data, .sentinel, .sentinel, .pinned], laidTests := true, laidLooks := .later }
def MoneyPartsCardSaid : Prop := Claim7.holds Tryd.pinned (.plain (OpenSpec.ofChange moneyPartsSpec)) moneyPartsCard

/-- THE TIED CARD OF 'supercargolaw01.MoneyTexts'. -/
def moneyTextsCard : Claim7 := { stood := { row := moneyTextsRow, standIns := [], harness := (true, "54ac33948091d4c194ff88725d1fa59263d725a5c3042eebdc3aa3738a8bbf4a"), looks := true }, kinds := [], alts := [], laidByText := true, laidKinds := [.data, .data, .data, .data, .sentinel, .sentinel, .pinned], laidTests := true, laidLooks := .later }
def MoneyTextsCardSaid : Prop := Claim7.holds Tryd.pinned (.plain (OpenSpec.ofChange moneyTextsSpec)) moneyTextsCard

/-- THE TIED CARD OF 'supercargolaw01.MoneyParses'. -/
def moneyParsesCard : Claim7 := { stood := { row := moneyParsesRow, standIns := [], harness := (true, "54ac33948091d4c194ff88725d1fa59263d725a5c3042eebdc3aa3738a8bbf4a"), looks := true }, kinds := [], alts := [], laidByText := true, laidKinds := [.data, .data, .data, .data, .sentinel, .sentinel, .pinned], laidTests := true, laidLooks := .later }
def MoneyParsesCardSaid : Prop := Claim7.holds Tryd.pinned (.plain (OpenSpec.ofChange moneyParsesSpec)) moneyParsesCard

/-- THE TIED CARD OF 'supercargolaw01.MoneySums'. -/
def moneySumsCard : Claim7 := { stood := { row := moneySumsRow, standIns := [], harness := (true, "54ac33948091d4c194ff88725d1fa59263d725a5c3042eebdc3aa3738a8bbf4a"), looks := true }, kinds := [], alts := [], laidByText := true, laidKinds := [.data, .data, .data, .data, .sentinel, .sentinel, .pinned], laidTests := true, laidLooks := .later }
def MoneySumsCardSaid : Prop := Claim7.holds Tryd.pinned (.plain (OpenSpec.ofChange moneySumsSpec)) moneySumsCard

/-- THE TIED CARD OF 'supercargolaw01.MoneyOrders'. -/
def moneyOrdersCard : Claim7 := { stood := { row := moneyOrdersRow, standIns := [], harness := (true, "54ac33948091d4c194ff88725d1fa59263d725a5c3042eebdc3aa3738a8bbf4a"), looks := true }, kinds := [], alts := [], laidByText := true, laidKinds := [.data, .data, .data, .data, .sentinel, .sentinel, .pinned], laidTests := true, laidLooks := .later }
def MoneyOrdersCardSaid : Prop := Claim7.holds Tryd.pinned (.plain (OpenSpec.ofChange moneyOrdersSpec)) moneyOrdersCard

/-- THE TIED CARD OF 'supercargolaw01.MoneyCompares'. -/
def moneyComparesCard : Claim7 := { stood := { row := moneyComparesRow, standIns := [], harness := (true, "54ac33948091d4c194ff88725d1fa59263d725a5c3042eebdc3aa3738a8bbf4a"), looks := true }, kinds := [], alts := [], laidByText := true, laidKinds := [.data, .data, .data, .data, .sentinel, .sentinel, .pinned], laidTests := true, laidLooks := .later }
def MoneyComparesCardSaid : Prop := Claim7.holds Tryd.pinned (.plain (OpenSpec.ofChange moneyComparesSpec)) moneyComparesCard

/-- THE SECOND FORM's CARD OF 'supercargolaw01.MoneyScales'. -/
def moneyScalesUptoCard : Claim7 := { stood := { row := moneyScalesUptoRow, standIns := [], harness := (true, "54ac33948091d4c194ff88725d1fa59263d725a5c3042eebdc3aa3738a8bbf4a"), looks := true }, kinds := [], alts := [], laidByText := true, laidKinds := [.data, .data, .data, .data, .sentinel, .sentinel, .pinned], laidTests := true, laidLooks := .later }
def MoneyScalesUptoCardSaid : Prop := Claim7.holds Tryd.pinned (.plain (OpenSpec.upto moneyScalesSpec)) moneyScalesUptoCard

/-- THE SECOND FORM's CARD OF 'supercargolaw01.MoneyRounds'. -/
def moneyRoundsUptoCard : Claim7 := { stood := { row := moneyRoundsUptoRow, standIns := [], harness := (true, "54ac33948091d4c194ff88725d1fa59263d725a5c3042eebdc3aa3738a8bbf4a"), looks := true }, kinds := [], alts := [], laidByText := true, laidKinds := [.data, .data, .data, .data, .sentinel, .sentinel, .pinned], laidTests := true, laidLooks := .later }
def MoneyRoundsUptoCardSaid : Prop := Claim7.holds Tryd.pinned (.plain (OpenSpec.upto moneyRoundsSpec)) moneyRoundsUptoCard

/-- THE SECOND FORM's CARD OF 'supercargolaw01.MoneyParts'. -/
def moneyPartsUptoCard : Claim7 := { stood := { row := moneyPartsUptoRow, standIns := [], harness := (true, "54ac33948091d4c194ff88725d1fa59263d725a5c3042eebdc3aa3738a8bbf4a"), looks := true }, kinds := [], alts := [], laidByText := true, laidKinds := [.data, .data, .data, .data, .sentinel, .sentinel, .pinned], laidTests := true, laidLooks := .later }
def MoneyPartsUptoCardSaid : Prop := Claim7.holds Tryd.pinned (.plain (OpenSpec.upto moneyPartsSpec)) moneyPartsUptoCard

/-- THE SECOND FORM's CARD OF 'supercargolaw01.MoneyTexts'. -/
def moneyTextsUptoCard : Claim7 := { stood := { row := moneyTextsUptoRow, standIns := [], harness := (true, "54ac33948091d4c194ff88725d1fa59263d725a5c3042eebdc3aa3738a8bbf4a"), looks := true }, kinds := [], alts := [], laidByText := true, laidKinds := [.data, .data, .data, .data, .sentinel, .sentinel, .pinned], laidTests := true, laidLooks := .later }
def MoneyTextsUptoCardSaid : Prop := Claim7.holds Tryd.pinned (.plain (OpenSpec.upto moneyTextsSpec)) moneyTextsUptoCard

/-- THE SECOND FORM's CARD OF 'supercargolaw01.MoneyParses'. -/
def moneyParsesUptoCard : Claim7 := { stood := { row := moneyParsesUptoRow, standIns := [], harness := (true, "54ac33948091d4c194ff88725d1fa59263d725a5c3042eebdc3aa3738a8bbf4a"), looks := true }, kinds := [], alts := [], laidByText := true, laidKinds := [.data, .data, .data, .data, .sentinel, .sentinel, .pinned], laidTests := true, laidLooks := .later }
def MoneyParsesUptoCardSaid : Prop := Claim7.holds Tryd.pinned (.plain (OpenSpec.upto moneyParsesSpec)) moneyParsesUptoCard

/-- THE SECOND FORM's CARD OF 'supercargolaw01.MoneySums'. -/
def moneySumsUptoCard : Claim7 := { stood := { row := moneySumsUptoRow, standIns := [], harness := (true, "54ac33948091d4c194ff88725d1fa59263d725a5c3042eebdc3aa3738a8bbf4a"), looks := true }, kinds := [], alts := [], laidByText := true, laidKinds := [.data, .data, .data, .data, .sentinel, .sentinel, .pinned], laidTests := true, laidLooks := .later }
def MoneySumsUptoCardSaid : Prop := Claim7.holds Tryd.pinned (.plain (OpenSpec.upto moneySumsSpec)) moneySumsUptoCard

/-- THE SECOND FORM's CARD OF 'supercargolaw01.MoneyOrders'. -/
def moneyOrdersUptoCard : Claim7 := { stood := { row := moneyOrdersUptoRow, standIns := [], harness := (true, "54ac33948091d4c194ff88725d1fa59263d725a5c3042eebdc3aa3738a8bbf4a"), looks := true }, kinds := [], alts := [], laidByText := true, laidKinds := [.data, .data, .data, .data, .sentinel, .sentinel, .pinned], laidTests := true, laidLooks := .later }
def MoneyOrdersUptoCardSaid : Prop := Claim7.holds Tryd.pinned (.plain (OpenSpec.upto moneyOrdersSpec)) moneyOrdersUptoCard

/-- THE SECOND FORM's CARD OF 'supercargolaw01.MoneyCompares'. -/
def moneyComparesUptoCard : Claim7 := { stood := { row := moneyComparesUptoRow, standIns := [], harness := (true, "54ac33948091d4c194ff88725d1fa59263d725a5c3042eebdc3aa3738a8bbf4a"), looks := true }, kinds := [], alts := [], laidByText := true, laidKinds := [.data, .data, .data, .data, .sentinel, .sentinel, .pinned], laidTests := true, laidLooks := .later }
def MoneyComparesUptoCardSaid : Prop := Claim7.holds Tryd.pinned (.plain (OpenSpec.upto moneyComparesSpec)) moneyComparesUptoCard
end Rows
end Go.Proofs.YtggjphcikcflkaaDoor
