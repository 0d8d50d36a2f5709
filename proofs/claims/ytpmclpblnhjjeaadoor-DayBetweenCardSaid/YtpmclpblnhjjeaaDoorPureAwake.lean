/- The chapter's examples hold. -/
import Derived.Test.YtpmclpblnhjjeaaDoorPureFind
import Derived.Test.YtpmclpblnhjjeaaDoorPx8
import Derived.Test.YtpmclpblnhjjeaaDoorPx10
namespace Go.Proofs.YtpmclpblnhjjeaaDoor.Pure
open Go.RowKit Go.Proofs.YtpmclpblnhjjeaaDoor.P Go.Proofs.YtpmclpblnhjjeaaDoorW.PrintWords Go.Proofs.YtpmclpblnhjjeaaDoorW.PrintLast
theorem awake_at : supercargolaw02_awake.f 60 = some true := by decide +kernel
theorem awake_eq {k : Nat} (hk : 60 ≤ k) : supercargolaw02_awake.f k = some true := at_rounds (g := fun k => supercargolaw02_awake.f k) (fun k => supercargolaw02_awake.mono k) hk awake_at
def heavy (l0 l1 : List Int) : Bool := decide (20 < l0.length) || decide (60 < l1.length)
theorem heavy_eq (l0 l1 : List Int) : supercargolaw02_heavy.f l0 l1 = some (heavy l0 l1) := by
  unfold supercargolaw02_heavy.f heavy
  by_cases h : 20 < l0.length
  · rw [if_pos (by omega)]; simp [h]
  · rw [if_neg (by omega)]
    have : decide ((l1.length : Int) > 60) = decide (60 < l1.length) := by rw [decide_eq_decide]; omega
    simp [h, this]
theorem heavy_no {l0 l1 : List Int} (h : heavy l0 l1 = false) : l0.length ≤ 20 ∧ l1.length ≤ 60 := by
  unfold heavy at h
  rw [Bool.or_eq_false_iff, decide_eq_false_iff_not, decide_eq_false_iff_not] at h
  omega
end Go.Proofs.YtpmclpblnhjjeaaDoor.Pure
