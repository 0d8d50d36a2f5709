/-
  DERIVED. GIVEN WITH THE SEED: THE CARDS: each row of YtpmclpblnhjjeaaDoorRows.lean that lists a variable, with what it lists TIED to the program's text (the seventh form; the later family's looks); each row that meets fmt, with fmt's text TOLD by the authors' own Lean function (tested against real Go, not proved from fmt's source: count such statements apart). THE CARD IS WHAT COUNTS. Prove the row's statement (the work); the ties are given (YtpmclpblnhjjeaaDoorTie.lean); close each card by the builder's one call (the guide's Derived/Test/ToyasCard.lean, 'card_holds'). Laid BY PROGRAM, IN A SANDBOX (cutbox-door.mjs). By AI agents, Wed Nov 11 2026. No macro, syntax, notation, axiom, sorry.
-/
import Derived.Test.YtpmclpblnhjjeaaDoorRows
import GoSem.ClaimSeven
namespace Go.Proofs.YtpmclpblnhjjeaaDoor
namespace Rows

/-- THE TIED CARD OF 'supercargolaw02.DayMonths'. -/
def dayMonthsCard : Claim7 := { stood := { row := dayMonthsRow, standIns := [], harness := (true, "884f129a9dc00605760b018f469dd1587c187d363531c3ce010fa2064eaab5f6"), looks := true }, kinds := [], alts := [], laidByText := true, laidKinds := [.data, .data, .data, .data], laidTests := true, laidLooks := .later }
def DayMonthsCardSaid : Prop := Claim7.holds Tryd.pinned (.plain (OpenSpec.ofChange dayMonthsSpec)) dayMonthsCard

/-- THE TIED CARD OF 'supercargolaw02.DayWalks'. -/
def dayWalksCard : Claim7 := { stood := { row := dayWalksRow, standIns := [], harness := (true, "884f129a9dc00605760b018f469dd1587c187d363531c3ce010fa2064eaab5f6"), looks := true }, kinds := [], alts := [], laidByText := true, laidKinds := [.data, .data, .data, .data], laidTests := true, laidLooks := .later }
def DayWalksCardSaid : Prop := Claim7.holds Tryd.pinned (.plain (OpenSpec.ofChange dayWalksSpec)) dayWalksCard

/-- THE TIED CARD OF 'supercargolaw02.DayRests'. -/
def dayRestsCard : Claim7 := { stood := { row := dayRestsRow, standIns := [], harness := (true, "884f129a9dc00605760b018f469dd1587c187d363531c3ce010fa2064eaab5f6"), looks := true }, kinds := [], alts := [], laidByText := true, laidKinds := [.data, .data, .data, .data], laidTests := true, laidLooks := .later }
def DayRestsCardSaid : Prop := Claim7.holds Tryd.pinned (.plain (OpenSpec.ofChange dayRestsSpec)) dayRestsCard

/-- THE TIED CARD OF 'supercargolaw02.DayBetween'. -/
def dayBetweenCard : Claim7 := { stood := { row := dayBetweenRow, standIns := [], harness := (true, "884f129a9dc00605760b018f469dd1587c187d363531c3ce010fa2064eaab5f6"), looks := true }, kinds := [], alts := [], laidByText := true, laidKinds := [.data, .data, .data, .data], laidTests := true, laidLooks := .later }
def DayBetweenCardSaid : Prop := Claim7.holds Tryd.pinned (.plain (OpenSpec.ofChange dayBetweenSpec)) dayBetweenCard

/-- THE TIED CARD OF 'supercargolaw02.DayBack'. -/
def dayBackCard : Claim7 := { stood := { row := dayBackRow, standIns := [], harness := (true, "884f129a9dc00605760b018f469dd1587c187d363531c3ce010fa2064eaab5f6"), looks := true }, kinds := [], alts := [], laidByText := true, laidKinds := [.data, .data, .data, .data], laidTests := true, laidLooks := .later }
def DayBackCardSaid : Prop := Claim7.holds Tryd.pinned (.plain (OpenSpec.ofChange dayBackSpec)) dayBackCard

/-- THE TIED CARD OF 'supercargolaw02.DayTexts'. -/
def dayTextsCard : Claim7 := { stood := { row := dayTextsRow, standIns := [], harness := (true, "884f129a9dc00605760b018f469dd1587c187d363531c3ce010fa2064eaab5f6"), looks := true }, kinds := [], alts := [], laidByText := true, laidKinds := [.data, .data, .data, .sentinel, .sentinel, .data], laidTests := true, laidLooks := .later }
def DayTextsCardSaid : Prop := Claim7.holds Tryd.pinned (.plain (OpenSpec.ofChange dayTextsSpec)) dayTextsCard

/-- THE TIED CARD OF 'supercargolaw02.DayParses'. -/
def dayParsesCard : Claim7 := { stood := { row := dayParsesRow, standIns := [], harness := (true, "884f129a9dc00605760b018f469dd1587c187d363531c3ce010fa2064eaab5f6"), looks := true }, kinds := [], alts := [], laidByText := true, laidKinds := [.data, .data, .data, .sentinel, .sentinel, .data], laidTests := true, laidLooks := .later }
def DayParsesCardSaid : Prop := Claim7.holds Tryd.pinned (.plain (OpenSpec.ofChange dayParsesSpec)) dayParsesCard

/-- THE SECOND FORM's CARD OF 'supercargolaw02.DayMonths'. -/
def dayMonthsUptoCard : Claim7 := { stood := { row := dayMonthsUptoRow, standIns := [], harness := (true, "884f129a9dc00605760b018f469dd1587c187d363531c3ce010fa2064eaab5f6"), looks := true }, kinds := [], alts := [], laidByText := true, laidKinds := [.data, .data, .data, .data], laidTests := true, laidLooks := .later }
def DayMonthsUptoCardSaid : Prop := Claim7.holds Tryd.pinned (.plain (OpenSpec.upto dayMonthsSpec)) dayMonthsUptoCard

/-- THE SECOND FORM's CARD OF 'supercargolaw02.DayWalks'. -/
def dayWalksUptoCard : Claim7 := { stood := { row := dayWalksUptoRow, standIns := [], harness := (true, "884f129a9dc00605760b018f469dd1587c187d363531c3ce010fa2064eaab5f6"), looks := true }, kinds := [], alts := [], laidByText := true, laidKinds := [.data, .data, .data, .data], laidTests := true, laidLooks := .later }
def DayWalksUptoCardSaid : Prop := Claim7.holds Tryd.pinned (.plain (OpenSpec.upto dayWalksSpec)) dayWalksUptoCard

/-- THE SECOND FORM's CARD OF 'supercargolaw02.DayRests'. -/
def dayRestsUptoCard : Claim7 := { stood := { row := dayRestsUptoRow, standIns := [], harness := (true, "884f129a9dc00605760b018f469dd1587c187d363531c3ce010fa2064eaab5f6"), looks := true }, kinds := [], alts := [], laidByText := true, laidKinds := [.data, .data, .data, .data], laidTests := true, laidLooks := .later }
def DayRestsUptoCardSaid : Prop := Claim7.holds Tryd.pinned (.plain (OpenSpec.upto dayRestsSpec)) dayRestsUptoCard

/-- THE SECOND FORM's CARD OF 'supercargolaw02.DayBetween'. -/
def dayBetweenUptoCard : Claim7 := { stood := { row := dayBetweenUptoRow, standIns := [], harness := (true, "884f129a9dc00605760b018f469dd1587c187d363531c3ce010fa2064eaab5f6"), looks := true }, kinds := [], alts := [], laidByText := true, laidKinds := [.data, .data, .data, .data], laidTests := true, laidLooks := .later }
def DayBetweenUptoCardSaid : Prop := Claim7.holds Tryd.pinned (.plain (OpenSpec.upto dayBetweenSpec)) dayBetweenUptoCard

/-- THE SECOND FORM's CARD OF 'supercargolaw02.DayBack'. -/
def dayBackUptoCard : Claim7 := { stood := { row := dayBackUptoRow, standIns := [], harness := (true, "884f129a9dc00605760b018f469dd1587c187d363531c3ce010fa2064eaab5f6"), looks := true }, kinds := [], alts := [], laidByText := true, laidKinds := [.data, .data, .data, .data], laidTests := true, laidLooks := .later }
def DayBackUptoCardSaid : Prop := Claim7.holds Tryd.pinned (.plain (OpenSpec.upto dayBackSpec)) dayBackUptoCard

/-- THE SECOND FORM's CARD OF 'supercargolaw02.DayTexts'. -/
def dayTextsUptoCard : Claim7 := { stood := { row := dayTextsUptoRow, standIns := [], harness := (true, "884f129a9dc00605760b018f469dd1587c187d363531c3ce010fa2064eaab5f6"), looks := true }, kinds := [], alts := [], laidByText := true, laidKinds := [.data, .data, .data, .sentinel, .sentinel, .data], laidTests := true, laidLooks := .later }
def DayTextsUptoCardSaid : Prop := Claim7.holds Tryd.pinned (.plain (OpenSpec.upto dayTextsSpec)) dayTextsUptoCard

/-- THE SECOND FORM's CARD OF 'supercargolaw02.DayParses'. -/
def dayParsesUptoCard : Claim7 := { stood := { row := dayParsesUptoRow, standIns := [], harness := (true, "884f129a9dc00605760b018f469dd1587c187d363531c3ce010fa2064eaab5f6"), looks := true }, kinds := [], alts := [], laidByText := true, laidKinds := [.data, .data, .data, .sentinel, .sentinel, .data], laidTests := true, laidLooks := .later }
def DayParsesUptoCardSaid : Prop := Claim7.holds Tryd.pinned (.plain (OpenSpec.upto dayParsesSpec)) dayParsesUptoCard
end Rows
end Go.Proofs.YtpmclpblnhjjeaaDoor
