/- The plain law of DayBetween. -/
import Derived.Test.YtpmclpblnhjjeaaDoorPureCount
import Derived.Test.YtpmclpblnhjjeaaDoorPx16
namespace Go.Proofs.YtpmclpblnhjjeaaDoor.Pure
open Go.RowKit Go.Proofs.YtpmclpblnhjjeaaDoor.P Go.Proofs.YtpmclpblnhjjeaaDoorW.PrintWords Go.Proofs.YtpmclpblnhjjeaaDoorW.PrintLast
theorem btw_le (l0 l1 : List Int) {a b : Int} : btw l0 l1 a b ≤ 1048577 ∨ (1048577 < a ∧ btw l0 l1 a b = 0) := by
  unfold btw lo hi
  have h := wk_le l0 l1 (max (min b.toNat 1048577) a.toNat)
  by_cases c : a.toNat ≤ 1048577
  · left; omega
  · right
    refine ⟨by omega, ?_⟩
    rw [show max (min b.toNat 1048577) a.toNat = a.toNat by omega, Nat.sub_self]
theorem wrap_btw (l0 l1 : List Int) {a m b : Int} : wrap64 ((btw l0 l1 a m : Int) + (btw l0 l1 m b : Int)) = ((btw l0 l1 a m + btw l0 l1 m b : Nat) : Int) := by
  have h1 := btw_le l0 l1 (a := a) (b := m)
  have h2 := btw_le l0 l1 (a := m) (b := b)
  rw [wrap_in (by omega) (by omega)]
  omega
theorem DayBetween (l0 l1 : List Int) (a m b : Int) (_ : (Lit.int .i64 a).wf = true) (_ : (Lit.int .i64 m).wf = true) (_ : (Lit.int .i64 b).wf = true) : ∃ k, supercargolaw02_DayBetween.f k l0 l1 a m b = some true := by
  refine ⟨2000000, ?_⟩
  unfold supercargolaw02_DayBetween.f
  rw [awake_eq (by omega), Option.bind_some, if_pos rfl, heavy_eq, Option.bind_some]
  have skip : supercargolaw02_DayBetween.j0 2000000 a m b true l0 l1 = some true := by
    rw [show (2000000 : Nat) = 1999999 + 1 from rfl]
    simp only [supercargolaw02_DayBetween.j0, ↓reduceIte]
  rw [skip]
  cases hh : heavy l0 l1
  · obtain ⟨h0, h1⟩ := heavy_no hh
    rw [if_neg (by simp)]
    have main : supercargolaw02_DayBetween.j0 2000000 a m b false l0 l1 = some true := by
      rw [show (2000000 : Nat) = 1999999 + 1 from rfl]
      simp only [supercargolaw02_DayBetween.j0]
      rw [if_neg (by simp), Between_eq (by omega) (by omega) a b (by omega), refBetween_eq (by omega) (by omega) a b (by omega), Option.bind_some, Option.bind_some, if_pos rfl]
      have j : ∀ c : Bool, (c = false → a ≤ m ∧ m ≤ b) → supercargolaw02_DayBetween.j1 1999999 a m b (btw l0 l1 a b : Int) c l0 l1 = some true := by
        intro c hc
        rw [show (1999999 : Nat) = 1999998 + 1 from rfl]
        simp only [supercargolaw02_DayBetween.j1]
        cases c
        · obtain ⟨c1, c2⟩ := hc rfl
          rw [if_neg (by simp), Between_eq (by omega) (by omega) a m (by omega), Between_eq (by omega) (by omega) m b (by omega), Option.bind_some, Option.bind_some, wrap_btw, btw_add l0 l1 c1 c2]
          rw [beq_self_eq_true]
        · rw [if_pos rfl]
      by_cases c1 : m < a
      · rw [if_pos c1]; exact j true (fun h => by cases h)
      · rw [if_neg c1]
        exact j _ (fun h => by rw [decide_eq_false_iff_not] at h; omega)
    by_cases c1 : a < -1000
    · rw [if_pos c1]
    · rw [if_neg c1]
      by_cases c2 : a > 1049576
      · rw [if_pos c2]
      · rw [if_neg c2]
        by_cases c3 : b < -1000
        · rw [if_pos c3]
        · rw [if_neg c3]
          by_cases c4 : b > 1049576
          · rw [if_pos c4]
          · rw [if_neg c4]
            cases decide (wrap64 (b - a) > 2000)
            · exact main
            · exact skip
  · rw [if_pos rfl]
end Go.Proofs.YtpmclpblnhjjeaaDoor.Pure
