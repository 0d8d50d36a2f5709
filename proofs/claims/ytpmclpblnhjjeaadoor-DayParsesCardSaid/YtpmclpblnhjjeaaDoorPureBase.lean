/- Words for all: whole numbers without wrapping, days, the examples. -/
import Derived.Test.YtpmclpblnhjjeaaDoorPx8
namespace Go.Proofs.YtpmclpblnhjjeaaDoor.Pure
open Go.RowKit Go.Proofs.YtpmclpblnhjjeaaDoor.P Go.Proofs.YtpmclpblnhjjeaaDoorW.PrintWords Go.Proofs.YtpmclpblnhjjeaaDoorW.PrintLast

theorem wrap_in {x : Int} (h0 : -9223372036854775808 ≤ x) (h1 : x ≤ 9223372036854775807) : wrap64 x = x := by unfold wrap64; omega
theorem wrap_next {n : Nat} (h : n < 4611686018427387904) : wrap64 ((n : Int) + 1) = ((n + 1 : Nat) : Int) := by unfold wrap64; omega
theorem rd_nat (l : List Int) (n : Nat) : rd l (n : Int) = l.getD n 0 := by unfold rd; rw [Int.toNat_natCast]
theorem rd_at {l : List Int} {n : Nat} (h : n < l.length) : rd l (n : Int) = l[n] := by
  rw [rd_nat, List.getD_eq_getElem?_getD, List.getElem?_eq_getElem h]; rfl
def isDay (d : Int) : Bool := decide (0 ≤ d) && decide (d ≤ 1048576)
theorem is_eq (d : Int) : day_is.f d = some (isDay d) := by
  unfold day_is.f isDay
  by_cases h : d ≥ 0
  · rw [if_pos h]; simp [show (0 : Int) ≤ d from h]
  · rw [if_neg h]; simp [show ¬ (0 : Int) ≤ d from h]
theorem refIs_eq (d : Int) : supercargoref02_Is.f d = some (isDay d) := is_eq d

theorem awake_at : supercargolaw02_awake.f 60 = some true := by decide +kernel
theorem awake_eq {k : Nat} (hk : 60 ≤ k) : supercargolaw02_awake.f k = some true := at_rounds (g := fun k => supercargolaw02_awake.f k) (fun k => supercargolaw02_awake.mono k) hk awake_at
end Go.Proofs.YtpmclpblnhjjeaaDoor.Pure
