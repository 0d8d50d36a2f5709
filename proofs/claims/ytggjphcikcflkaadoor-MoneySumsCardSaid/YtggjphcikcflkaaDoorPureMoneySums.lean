/- The law MoneySums in plain Lean: any two amounts together, and which is less, are the document's. -/
import Derived.Test.YtggjphcikcflkaaDoorPureMay
import Derived.Test.YtggjphcikcflkaaDoorPx18
namespace Go.Proofs.YtggjphcikcflkaaDoor.Pure
open Go.RowKit Go.Proofs.YtggjphcikcflkaaDoor.P Go.Proofs.YtggjphcikcflkaaDoorW.PrintWords Go.Proofs.YtggjphcikcflkaaDoorW.PrintLast Go.Proofs.YtggjphcikcflkaaDoorW.PrintMore
/-- Two that may be, of one currency. -/
def al (a : ByteArray) (n : Int) (b : ByteArray) (m : Int) : Bool := may a n && (may b m && (a.data.toList == b.data.toList))
theorem alike_eq (a : ByteArray) (n : Int) (b : ByteArray) (m : Int) : money_alike.f a n b m = some (al a n b m) := by
  unfold money_alike.f al
  rw [may_eq, Option.bind_some, may_eq]
  cases may a n with
  | false => rw [if_neg (by simp), Bool.false_and]
  | true =>
    rw [if_pos rfl, Option.bind_some, Bool.true_and]
    cases may b m with
    | false => rw [if_neg (by simp), Bool.false_and]
    | true => rw [if_pos rfl, Bool.true_and, ByteArray.toList_eq, ByteArray.toList_eq]
def sumS (a : ByteArray) (n : Int) (b : ByteArray) (m : Int) : ByteArray × Int × Bool := if al a n b m = true then (if within (n + m) = true then (a, n + m, true) else (strD [], 0, false)) else (strD [], 0, false)
theorem al_wrap {a : ByteArray} {n : Int} {b : ByteArray} {m : Int} (h : al a n b m = true) : wrap64 (n + m) = n + m := by
  unfold al at h
  rw [Bool.and_eq_true, Bool.and_eq_true] at h
  have h1 := may_in h.1
  have h2 := may_in h.2.1
  exact wrap_in (by omega) (by omega)
theorem Sum_eq (a : ByteArray) (n : Int) (b : ByteArray) (m : Int) : money_Sum.f a n b m = some (sumS a n b m) := by
  unfold money_Sum.f sumS
  rw [alike_eq, Option.bind_some]
  by_cases h : al a n b m = true
  · rw [if_pos h, if_pos h, al_wrap h, within_eq, Option.bind_some]
    by_cases hw : within (n + m) = true
    · rw [if_pos hw, if_pos hw]
    · rw [if_neg hw, if_neg hw]; rfl
  · rw [if_neg h, if_neg h]; rfl
theorem Less_eq (a : ByteArray) (n : Int) (b : ByteArray) (m : Int) : money_Less.f a n b m = some (if al a n b m = true then (decide (n < m), true) else (false, false)) := by
  unfold money_Less.f
  rw [alike_eq, Option.bind_some]
  by_cases h : al a n b m = true
  · rw [if_pos h, if_pos h]
  · rw [if_neg h, if_neg h]
theorem refSum_eq (a : ByteArray) (n : Int) (b : ByteArray) (m : Int) {k : Nat} (hk : 5 ≤ k) : supercargoref01_Sum.f k a n b m = some (sumS a n b m) := by
  obtain ⟨k, rfl⟩ : ∃ j, k = j + 1 := ⟨k - 1, by omega⟩
  unfold supercargoref01_Sum.f sumS al
  rw [refMay_eq a n (by omega), Option.bind_some]
  by_cases h1 : may a n = true
  · rw [if_pos h1, refMay_eq b m (by omega), Option.bind_some, h1, Bool.true_and]
    by_cases h2 : may b m = true
    · rw [if_pos h2, h2, Bool.true_and]
      simp only [supercargoref01_Sum.j0]
      have i1 := may_in h1
      have i2 := may_in h2
      rw [ByteArray.toList_eq, ByteArray.toList_eq, wrap_in (by omega) (by omega), refMay_eq a (n + m) (by omega), Option.bind_some]
      have hm : may a (n + m) = within (n + m) := by unfold may; rw [may_cur h1, Bool.true_and]
      rw [hm]
      by_cases he : a.data.toList = b.data.toList
      · rw [if_neg (show ¬ (a.data.toList != b.data.toList) = true by rw [he]; simp), if_pos (show (a.data.toList == b.data.toList) = true by rw [he]; simp)]
        by_cases hw : within (n + m) = true
        · rw [if_pos hw, if_pos hw]
        · rw [if_neg hw, if_neg hw]; rfl
      · rw [if_pos (show (a.data.toList != b.data.toList) = true by simpa using he), if_neg (show ¬ (a.data.toList == b.data.toList) = true by simpa using he)]; rfl
    · rw [if_neg h2, Bool.eq_false_iff.mpr h2, Bool.false_and, if_neg (by simp)]
      simp only [supercargoref01_Sum.j0]
      rw [if_pos trivial]; rfl
  · rw [if_neg h1, Bool.eq_false_iff.mpr h1, Bool.false_and, if_neg (by simp)]
    simp only [supercargoref01_Sum.j0]
    rw [if_pos trivial]; rfl
theorem sums_j0 {a : ByteArray} {n : Int} {b : ByteArray} {m : Int} {o l c e : Bool} {s : ByteArray} {x : Int} {k : Nat} (hk : 6 ≤ k) (hl : l = (if e = true then decide (n < m) else false)) (hc : c = e) : supercargolaw01_MoneySums.j0 k o o l c e a n b m s x s x = some true := by
  obtain ⟨k, rfl⟩ : ∃ j, k = j + 1 := ⟨k - 1, by omega⟩
  obtain ⟨j, rfl⟩ : ∃ j, k = j + 1 := ⟨k - 1, by omega⟩
  subst hc hl
  simp only [supercargolaw01_MoneySums.j0]
  rw [if_pos (by simp), if_pos (by simp), if_pos (by simp)]
  rw [may_eq, Option.bind_some, refMay_eq a n (by omega), Option.bind_some, awake_eq (by omega), Option.bind_some]
  have j1 : supercargolaw01_MoneySums.j1 (j + 1) true = some true := by simp only [supercargolaw01_MoneySums.j1]
  rw [j1]
  cases c with
  | true => simp
  | false => simp
theorem MoneySums (a : ByteArray) (n : Int) (b : ByteArray) (m : Int) (_ : (Lit.int .i64 n).wf = true) (_ : (Lit.int .i64 m).wf = true) : ∃ k, supercargolaw01_MoneySums.f k a n b m = some true := by
  refine ⟨20, ?_⟩
  unfold supercargolaw01_MoneySums.f
  rw [Sum_eq, Option.bind_some, refSum_eq _ _ _ _ (by omega), Option.bind_some, Less_eq, Option.bind_some, refMay_eq a n (by omega), Option.bind_some]
  by_cases h1 : may a n = true
  · rw [if_pos h1, refMay_eq b m (by omega), Option.bind_some]
    by_cases h2 : may b m = true
    · rw [if_pos h2]
      have e : al a n b m = (a.toList == b.toList) := by unfold al; rw [h1, h2, Bool.true_and, Bool.true_and, ByteArray.toList_eq, ByteArray.toList_eq]
      refine sums_j0 (by omega) ?_ ?_
      · rw [e]; by_cases hq : (a.toList == b.toList) = true
        · rw [if_pos hq, if_pos hq]
        · rw [if_neg hq, if_neg hq]
      · rw [e]; by_cases hq : (a.toList == b.toList) = true
        · rw [if_pos hq, hq]
        · rw [if_neg hq, Bool.eq_false_iff.mpr hq]
    · rw [if_neg h2]
      have e : al a n b m = false := by unfold al; rw [Bool.eq_false_iff.mpr h2]; simp
      refine sums_j0 (by omega) ?_ ?_
      · rw [e]; simp
      · rw [e]; simp
  · rw [if_neg h1]
    have e : al a n b m = false := by unfold al; rw [Bool.eq_false_iff.mpr h1]; simp
    refine sums_j0 (by omega) ?_ ?_
    · rw [e]; simp
    · rw [e]; simp
end Go.Proofs.YtggjphcikcflkaaDoor.Pure
