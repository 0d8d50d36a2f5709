/- The references' endorsements and chains, printed, come to the same as the program's. -/
import Derived.Test.YtjmbglgchmhahaaPureBase
import Derived.Test.YtjmbglgchmhahaaPx9
import Derived.Test.YtjmbglgchmhahaaPx10
namespace Go.Proofs.Ytjmbglgchmhahaa.Pure
open Go.RowKit Go.Proofs.Ytjmbglgchmhahaa.P Go.Proofs.YtjmbglgchmhahaaW.PrintWords Go.Proofs.YtjmbglgchmhahaaW.PrintLast

def Small (x : S31) : Prop := x.f0.size ≤ 1000 ∧ x.f1.size ≤ 1000
theorem refRight_eq (x : S31) (hx : Small x) (k : Nat) (hk : 2010 ≤ k) : supercargoref22_Right.f k x.f0 x.f1 x.f2 x.f3 = some (right x) := by
  obtain ⟨k, rfl⟩ : ∃ m, k = m + 3 := ⟨k - 3, by omega⟩
  have h1 := hx.1
  have h2 := hx.2
  have n0 := refName_eq x.f0 (by omega) (k + 3) (by omega)
  have n1 := refName_eq x.f1 (by omega) (k + 2) (by omega)
  unfold supercargoref22_Right.f right rightB
  rw [n0]
  simp only [Option.bind_some, supercargoref22_Right.j0, supercargoref22_Right.j1]
  rw [n1]
  by_cases a1 : nm x.f0 = true
  · by_cases a2 : x.f3 < 0
    · simp [a1, a2]
    · by_cases a3 : x.f3 > 1048576
      · simp [a1, a2, a3]
      · by_cases a4 : x.f2 = 0
        · by_cases a5 : nm x.f1 = true
          · simp [a1, a2, a3, a4, a5]
          · simp [a1, a2, a3, a4, a5]
        · by_cases a5 : x.f2 = 2
          · by_cases a6 : nm x.f1 = true
            · simp [a1, a2, a3, a5, a6]
            · simp [a1, a2, a3, a5, a6]
          · by_cases a6 : x.f2 = 1
            · simp [a1, a2, a3, a6]
            · simp [a1, a2, a3, a4, a5, a6]
  · simp [a1]

/-- The state ahead of number n. -/
def stAt (first : ByteArray) (l : List S31) (n : Nat) : St := if h : 0 < n ∧ n ≤ l.length then on (l[n - 1]'(by omega)) else start first
theorem right_kind {x : S31} (h : right x = true) : (x.f2 = 0 ∨ x.f2 = 2 ∨ x.f2 = 1) ∧ 0 ≤ x.f3 ∧ x.f3 ≤ 1048576 ∧ nm x.f0 = true ∧ (x.f2 = 1 → x.f1.toList = []) ∧ (x.f2 ≠ 1 → nm x.f1 = true ∧ x.f1.toList ≠ x.f0.toList) := by
  unfold right rightB at h
  by_cases a1 : nm x.f0 = true
  · rw [if_pos a1] at h
    by_cases a2 : x.f3 < 0
    · rw [if_pos a2] at h; cases h
    · rw [if_neg a2] at h
      by_cases a3 : x.f3 > 1048576
      · rw [if_pos a3] at h; cases h
      · rw [if_neg a3] at h
        by_cases a4 : x.f2 = 0 ∨ x.f2 = 2
        · rw [if_pos a4] at h
          simp at h
          refine ⟨by rcases a4 with h | h <;> simp [h], by omega, by omega, a1, fun e => by omega, fun _ => ⟨h.1, h.2⟩⟩
        · rw [if_neg a4] at h
          by_cases a5 : x.f2 = 1
          · rw [if_pos a5] at h
            simp at h
            exact ⟨.inr (.inr a5), by omega, by omega, a1, fun _ => h, fun e => absurd a5 e⟩
          · rw [if_neg a5] at h; cases h
  · rw [if_neg a1] at h; cases h
theorem wrap_prev {n : Nat} (h : 0 < n) (h' : n < 4611686018427387904) : wrap64 ((n : Int) - 1) = ((n - 1 : Nat) : Int) := by
  unfold wrap64; omega
theorem wrong_pair (k : Nat) (x y : S31) (hy : y.f2 = 0 ∨ y.f2 = 2 ∨ y.f2 = 1) :
    (if y.f2 = 2 then some 9 else if y.f2 = 0 then supercargoref22_Wrong.j0 (k + 1) (x.f0.toList != y.f1.toList) x.f0 x.f1 x.f2 x.f3 y.f0 y.f1 y.f2 y.f3
      else supercargoref22_Wrong.j0 (k + 1) false x.f0 x.f1 x.f2 x.f3 y.f0 y.f1 y.f2 y.f3) =
    some (if (on y).ended = true then 9 else if (on y).blank = false ∧ x.f0.toList ≠ (on y).holder.toList then 8 else if x.f3 < (on y).day then 6 else 0) := by
  unfold on
  simp only [supercargoref22_Wrong.j0]
  by_cases e2 : y.f2 = 2
  · simp [e2]
  · by_cases e0 : y.f2 = 0
    · by_cases e3 : x.f0.toList = y.f1.toList
      · simp [e0, e3]
        split <;> rfl
      · simp [e0, e3]
    · have e1 : y.f2 = 1 := by omega
      simp [e1]
      split <;> rfl
theorem refWrong_eq (first : ByteArray) (l : List S31) (hl : l.length ≤ 1000000) (hs : ∀ x ∈ l, Small x) (n : Nat) (hn : n < l.length) (hp : ∀ h : 0 < n, right (l[n - 1]'(by omega)) = true) (k : Nat) (hk : 2020 ≤ k) :
    supercargoref22_Wrong.f k first l n = some (wrong (stAt first l n) l[n]) := by
  have R := refRight_eq l[n] (hs _ (List.getElem_mem _)) k (by omega)
  unfold supercargoref22_Wrong.f
  rw [if_pos (by omega), if_pos (by omega), rd_at hn, R]
  simp only [Option.bind_some]
  obtain ⟨k, rfl⟩ : ∃ m, k = m + 1 := ⟨k - 1, by omega⟩
  by_cases hr : right l[n] = true
  · have K := right_kind hr
    by_cases h0 : n = 0
    · subst h0
      rw [if_pos hr, if_pos (by rfl)]
      unfold wrong stAt start
      rw [if_pos hr, dif_neg (by omega)]
      simp only [Bool.false_eq_true, if_false, true_and]
      by_cases e : l[0].f0.toList = first.toList
      · rw [if_pos e, if_neg (by simp [e]), if_neg (by omega)]
      · rw [if_neg e, if_pos e]
    · have hpr := right_kind (hp (by omega))
      rw [if_pos hr, if_neg (by omega), wrap_prev (by omega) (by omega), if_pos (by omega), if_pos (by omega), rd_at (show n - 1 < l.length by omega)]
      unfold wrong stAt
      rw [if_pos hr, dif_pos (show 0 < n ∧ n ≤ l.length by omega)]
      exact wrong_pair k l[n] (l[n - 1]'(by omega)) hpr.1
  · rw [if_neg hr]
    unfold wrong
    rw [if_neg hr]

theorem go_nil (s : St) (n : Nat) : go s n [] = (s, n, 0) := rfl
theorem go_cons_ok {s : St} {n : Nat} {x : S31} {r : List S31} (h : wrong s x = 0) : go s n (x :: r) = go (on x) (n + 1) r := by simp [go, h]
theorem go_cons_no {s : St} {n : Nat} {x : S31} {r : List S31} (h : wrong s x ≠ 0) : go s n (x :: r) = (⟨em, false, false, 0⟩, n, wrong s x) := by simp [go, h]
theorem wrong_right {s : St} {x : S31} (h : wrong s x = 0) : right x = true := by
  unfold wrong at h
  by_cases e : right x = true
  · exact e
  · rw [if_neg e] at h; cases h
theorem stAt_next {first : ByteArray} {l : List S31} {n : Nat} (hn : n < l.length) : stAt first l (n + 1) = on l[n] := by
  unfold stAt
  rw [dif_pos ⟨by omega, by omega⟩]
  rfl
abbrev three (r : St × Nat × Int) : ByteArray × Int × Int := (r.1.holder, (r.2.1 : Int), r.2.2)
theorem refCheck_l0 (first : ByteArray) (l : List S31) (hl : l.length ≤ 1000000) (hs : ∀ x ∈ l, Small x) (d : Nat) : ∀ n, n ≤ l.length → l.length - n = d → (0 < n → ∀ h' : n - 1 < l.length, right l[n - 1] = true) →
    ∀ k, d + 2030 ≤ k → supercargoref22_Check.l0 k first l n = some (three (go (stAt first l n) n (l.drop n))) := by
  induction d with
  | zero =>
    intro n hn hd hp k hk
    obtain ⟨k, rfl⟩ : ∃ m, k = m + 1 := ⟨k - 1, by omega⟩
    have e : n = l.length := by omega
    simp only [supercargoref22_Check.l0]
    rw [if_neg (by omega), List.drop_of_length_le (by omega), go_nil]
    by_cases h0 : l.length = 0
    · rw [if_pos (by omega)]
      unfold stAt
      rw [dif_neg (by omega)]
      simp [three, start, e, h0]
    · have w := wrap_prev (n := l.length) (by omega) (by omega)
      rw [if_neg (by omega), w, if_pos (by omega), if_pos (by omega), rd_at (show l.length - 1 < l.length by omega)]
      subst e
      unfold stAt
      rw [dif_pos (show 0 < l.length ∧ l.length ≤ l.length by omega)]
      rfl
  | succ d ih =>
    intro n hn hd hp k hk
    obtain ⟨k, rfl⟩ : ∃ m, k = m + 1 := ⟨k - 1, by omega⟩
    have hlt : n < l.length := by omega
    have W := refWrong_eq first l hl hs n hlt (fun h => hp h (by omega)) k (by omega)
    simp only [supercargoref22_Check.l0]
    rw [if_pos (show (n : Int) < (l.length : Int) by omega), W, List.drop_eq_getElem_cons hlt]
    simp only [Option.bind_some]
    by_cases h0 : wrong (stAt first l n) l[n] = 0
    · have IH := ih (n + 1) (by omega) (by omega) (fun _ _ => by simpa using wrong_right h0) k (by omega)
      rw [if_pos h0, go_cons_ok h0, wrap_next (show n < 4611686018427387904 by omega), IH, stAt_next hlt]
    · rw [if_neg h0, go_cons_no h0]
      rfl
theorem refCheck_eq (first : ByteArray) (hf : first.size ≤ 1000) (l : List S31) (hl : l.length ≤ 1000000) (hs : ∀ x ∈ l, Small x) (k : Nat) (hk : l.length + 2030 ≤ k) :
    supercargoref22_Check.f k first l = some (three (chain first l)) := by
  have n0 := refName_eq first (by omega) k (by omega)
  unfold supercargoref22_Check.f chain
  rw [n0]
  simp only [Option.bind_some]
  by_cases h : nm first = true
  · have := refCheck_l0 first l hl hs l.length 0 (by omega) (by omega) (fun h => by omega) k (by omega)
    rw [if_pos h, if_pos h]
    rw [show ((0 : Nat) : Int) = 0 from rfl, List.drop_zero] at this
    rw [this]
    rfl
  · rw [if_neg h, if_neg h]
    rfl
end Go.Proofs.Ytjmbglgchmhahaa.Pure
