/- The law EndorseTexts in plain Lean. -/
import Derived.Test.YtjmbglgchmhahaaDoorPureRow
import Derived.Test.YtjmbglgchmhahaaDoorPx18
namespace Go.Proofs.YtjmbglgchmhahaaDoor.Pure
open Go.RowKit Go.Proofs.YtjmbglgchmhahaaDoor.P Go.Proofs.YtjmbglgchmhahaaDoorW.PrintWords Go.Proofs.YtjmbglgchmhahaaDoorW.PrintLast Go.Proofs.YtjmbglgchmhahaaDoorW.PrintMore
open Spl (spl glue)
theorem EndorseTexts (l0 : List S34) : ∃ k, supercargolaw22_EndorseTexts.f k l0 = some true := by
  refine ⟨2000000, ?_⟩
  generalize hk : (2000000 : Nat) = k
  have hk1 : 2000000 ≤ k := by omega
  clear hk
  unfold supercargolaw22_EndorseTexts.f
  rw [awake_eq k (by omega), Option.bind_some, if_pos rfl]
  obtain ⟨b, hb, hc⟩ := big_eq l0 30 (by omega)
  have hb' := hb k (by omega)
  rw [show ((30 : Nat) : Int) = 30 from rfl] at hb'
  rw [hb', Option.bind_some]
  cases b with
  | true => rw [if_pos rfl]
  | false =>
    obtain ⟨hl, hs⟩ := hc rfl
    have hsm : ∀ x ∈ l0, Small x := fun x hx => ⟨by have := (hs x hx).1; omega, by have := (hs x hx).2; omega⟩
    rw [if_neg Bool.false_ne_true, text_eq l0 (by omega) (by omega), Option.bind_some, refText_eq l0 (by omega) hsm (by omega), Option.bind_some, if_pos rfl, strD_toList]
    by_cases h0 : textL l0 = []
    · rw [if_pos h0]
    · rw [if_neg h0]
      have hr : l0.all right = true := by
        by_cases h : l0.all right = true
        · exact h
        · exact absurd (by unfold textL; rw [if_neg h]) h0
      have ht : textL l0 = rowL l0 := by unfold textL; rw [if_pos hr]
      have hlen := row_le l0 hr
      rw [ht, parse_eq (by omega) (by omega), Option.bind_some, goL_row l0 hr []]
      simp only [List.nil_append, List.length_nil, Nat.zero_add]
      rw [same_eq l0 (by omega) k (by omega), Option.bind_some, if_pos rfl, if_pos trivial]
      rfl
end Go.Proofs.YtjmbglgchmhahaaDoor.Pure
