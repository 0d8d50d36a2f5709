/-
  DERIVED. GIVEN WITH THE SEED: THE CARDS: each row of YtjmbglgchmhahaaDoorRows.lean that lists a variable, with what it lists TIED to the program's text (the seventh form; the later family's looks); each row that meets fmt, with fmt's text TOLD by the authors' own Lean function (tested against real Go, not proved from fmt's source: count such statements apart). THE CARD IS WHAT COUNTS. Prove the row's statement (the work); the ties are given (YtjmbglgchmhahaaDoorTie.lean); close each card by the builder's one call (the guide's Derived/Test/ToyasCard.lean, 'card_holds'). Laid BY PROGRAM, IN A SANDBOX (cutbox-door.mjs). By AI agents, Wed Nov 11 2026. No macro, syntax, notation, axiom, sorry.
-/
import Derived.Test.YtjmbglgchmhahaaDoorRows
import GoSem.ClaimSeven
namespace Go.Proofs.YtjmbglgchmhahaaDoor
namespace Rows

/-- THE TIED CARD OF 'supercargolaw22.EndorseTexts'. -/
def endorseTextsCard : Claim7 := { stood := { row := endorseTextsRow, standIns := [], harness := (true, "b8dc2061cb749d9285c13baa65f0c291456f70d7169636a8bbfdec6b4d0a054c"), looks := true }, kinds := [], alts := [], laidByText := true, laidKinds := [.data, .data, .data, .data, .sentinel, .sentinel, .pinned], laidTests := true, laidLooks := .later }
def EndorseTextsCardSaid : Prop := Claim7.holds Tryd.pinned (.plain (OpenSpec.ofChange endorseTextsSpec)) endorseTextsCard

/-- THE TIED CARD OF 'supercargolaw22.EndorseParses'. -/
def endorseParsesCard : Claim7 := { stood := { row := endorseParsesRow, standIns := [], harness := (true, "b8dc2061cb749d9285c13baa65f0c291456f70d7169636a8bbfdec6b4d0a054c"), looks := true }, kinds := [], alts := [], laidByText := true, laidKinds := [.data, .data, .data, .data, .sentinel, .sentinel, .pinned], laidTests := true, laidLooks := .later }
def EndorseParsesCardSaid : Prop := Claim7.holds Tryd.pinned (.plain (OpenSpec.ofChange endorseParsesSpec)) endorseParsesCard

/-- THE SECOND FORM's CARD OF 'supercargolaw22.EndorseTexts'. -/
def endorseTextsUptoCard : Claim7 := { stood := { row := endorseTextsUptoRow, standIns := [], harness := (true, "b8dc2061cb749d9285c13baa65f0c291456f70d7169636a8bbfdec6b4d0a054c"), looks := true }, kinds := [], alts := [], laidByText := true, laidKinds := [.data, .data, .data, .data, .sentinel, .sentinel, .pinned], laidTests := true, laidLooks := .later }
def EndorseTextsUptoCardSaid : Prop := Claim7.holds Tryd.pinned (.plain (OpenSpec.upto endorseTextsSpec)) endorseTextsUptoCard

/-- THE SECOND FORM's CARD OF 'supercargolaw22.EndorseParses'. -/
def endorseParsesUptoCard : Claim7 := { stood := { row := endorseParsesUptoRow, standIns := [], harness := (true, "b8dc2061cb749d9285c13baa65f0c291456f70d7169636a8bbfdec6b4d0a054c"), looks := true }, kinds := [], alts := [], laidByText := true, laidKinds := [.data, .data, .data, .data, .sentinel, .sentinel, .pinned], laidTests := true, laidLooks := .later }
def EndorseParsesUptoCardSaid : Prop := Claim7.holds Tryd.pinned (.plain (OpenSpec.upto endorseParsesSpec)) endorseParsesUptoCard
end Rows
end Go.Proofs.YtjmbglgchmhahaaDoor
