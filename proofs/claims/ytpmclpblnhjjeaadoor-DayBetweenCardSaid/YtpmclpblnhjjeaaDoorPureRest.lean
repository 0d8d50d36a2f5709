/- Which days rest: what the program's functions and the reference's come to, in plain Lean. -/
import Derived.Test.YtpmclpblnhjjeaaDoorPx3
import Derived.Test.YtpmclpblnhjjeaaDoorPx4
import Derived.Test.YtpmclpblnhjjeaaDoorPx11
namespace Go.Proofs.YtpmclpblnhjjeaaDoor.Pure
open Go.RowKit Go.Proofs.YtpmclpblnhjjeaaDoor.P Go.Proofs.YtpmclpblnhjjeaaDoorW.PrintWords Go.Proofs.YtpmclpblnhjjeaaDoorW.PrintLast

theorem wrap_in {x : Int} (h0 : -9223372036854775808 ≤ x) (h1 : x ≤ 9223372036854775807) : wrap64 x = x := by unfold wrap64; omega
theorem wrap_next {n : Nat} (h : n < 4611686018427387904) : wrap64 ((n : Int) + 1) = ((n + 1 : Nat) : Int) := by unfold wrap64; omega
theorem rd_nat (l : List Int) (n : Nat) : rd l (n : Int) = l.getD n 0 := by unfold rd; rw [Int.toNat_natCast]
theorem rd_at {l : List Int} {n : Nat} (h : n < l.length) : rd l (n : Int) = l[n] := by
  rw [rd_nat, List.getD_eq_getElem?_getD, List.getElem?_eq_getElem h]; rfl
def isDay (d : Int) : Bool := decide (0 ≤ d) && decide (d ≤ 1048576)
theorem is_eq (d : Int) : day_is.f d = some (isDay d) := by
  unfold day_is.f isDay
  by_cases h : d ≥ 0
  · rw [if_pos h]; simp [show (0 : Int) ≤ d from h]
  · rw [if_neg h]; simp [show ¬ (0 : Int) ≤ d from h]
theorem refIs_eq (d : Int) : supercargoref02_Is.f d = some (isDay d) := is_eq d

/-! Lists of whole numbers that rise. -/
def okAt (l : List Int) (top : Int) (n : Nat) : Bool := !(decide (l.getD n 0 < 0)) && (!(decide (l.getD n 0 > top)) && (decide (n = 0) || !(decide (l.getD (n - 1) 0 ≥ l.getD n 0))))
/-- From a place on. -/
def risesFrom (l : List Int) (top : Int) : Nat → Nat → Bool
  | 0, _ => decide ((l.length : Int) ≤ 4096)
  | d + 1, n => okAt l top n && risesFrom l top d (n + 1)
def rises (l : List Int) (top : Int) : Bool := risesFrom l top l.length 0
theorem rises_step (l : List Int) (top : Int) (n : Nat) (hn : n < l.length) (hl : l.length ≤ 1000) {α : Type} (F : Option α) (G : Option α) :
    (if (rd l (n : Int)) < 0 then G else (if (rd l (n : Int)) > top then G else (if (n : Int) > 0 then (if 0 ≤ (wrap64 ((n : Int) - 1)) then (if (wrap64 ((n : Int) - 1)) < (l.length : Int) then (if (rd l (wrap64 ((n : Int) - 1))) ≥ (rd l (n : Int)) then G else F) else none) else none) else F))) = if okAt l top n = true then F else G := by
  unfold okAt
  by_cases h3 : n = 0
  · subst h3
    rw [rd_nat, if_neg (show ¬ ((0 : Nat) : Int) > 0 by omega)]
    generalize l.getD 0 0 = a
    by_cases h1 : a < 0
    · rw [if_pos h1]; simp [h1]
    · rw [if_neg h1]
      by_cases h2 : a > top
      · rw [if_pos h2]; simp [h2]
      · rw [if_neg h2]; simp [h1, h2]
  · have w : wrap64 ((n : Int) - 1) = ((n - 1 : Nat) : Int) := by unfold wrap64; omega
    rw [w, if_pos (show (n : Int) > 0 by omega), if_pos (show (0 : Int) ≤ ((n - 1 : Nat) : Int) by omega), if_pos (show ((n - 1 : Nat) : Int) < (l.length : Int) by omega), rd_nat, rd_nat]
    generalize l.getD n 0 = a
    generalize l.getD (n - 1) 0 = b
    by_cases h1 : a < 0
    · rw [if_pos h1]; simp [h1]
    · rw [if_neg h1]
      by_cases h2 : a > top
      · rw [if_pos h2]; simp [h2]
      · rw [if_neg h2]
        by_cases h4 : b ≥ a
        · rw [if_pos h4]; simp [h4, h3]
        · rw [if_neg h4]; simp [h1, h2, h3, h4]
theorem rises_l0 (l : List Int) (top : Int) (hl : l.length ≤ 1000) (d : Nat) : ∀ n, n ≤ l.length → l.length - n = d → ∀ k, d + 1 ≤ k →
    day_rises.l0 k l top l (l.length : Int) (n : Int) = some (risesFrom l top d n) ∧ supercargoref02_rises.l0 k l top (n : Int) = some (risesFrom l top d n) := by
  induction d with
  | zero =>
    intro n hn hd k hk
    obtain ⟨k, rfl⟩ : ∃ m, k = m + 1 := ⟨k - 1, by omega⟩
    simp only [day_rises.l0, supercargoref02_rises.l0, risesFrom]
    rw [if_neg (by omega), if_neg (by omega)]
    exact ⟨rfl, rfl⟩
  | succ d ih =>
    intro n hn hd k hk
    obtain ⟨k, rfl⟩ : ∃ m, k = m + 1 := ⟨k - 1, by omega⟩
    have hlt : n < l.length := by omega
    obtain ⟨h1, h2⟩ := ih (n + 1) (by omega) (by omega) k (by omega)
    simp only [day_rises.l0, supercargoref02_rises.l0, risesFrom]
    have c1 : (n : Int) < (l.length : Int) := by omega
    have c2 : (0 : Int) ≤ (n : Int) := by omega
    simp only [c1, c2, ↓reduceIte]
    rw [wrap_next (show n < 4611686018427387904 by omega), h1, h2]
    rw [rises_step l top n hlt hl (some (risesFrom l top d (n + 1))) (some false)]
    by_cases h : okAt l top n = true
    · rw [if_pos h, h]; simp
    · rw [if_neg h]; simp [h]
theorem rises_eq (l : List Int) (top : Int) (hl : l.length ≤ 1000) (k : Nat) (hk : l.length + 1 ≤ k) : day_rises.f k l top = some (rises l top) := by
  unfold day_rises.f
  exact (rises_l0 l top hl l.length 0 (by omega) (by omega) k hk).1
theorem refRises_eq (l : List Int) (top : Int) (hl : l.length ≤ 1000) (k : Nat) (hk : l.length + 1 ≤ k) : supercargoref02_rises.f k l top = some (rises l top) := by
  unfold supercargoref02_rises.f
  exact (rises_l0 l top hl l.length 0 (by omega) (by omega) k hk).2
theorem risesFrom_ok (l : List Int) (top : Int) (d : Nat) : ∀ n, l.length - n = d → risesFrom l top d n = true → ∀ m, n ≤ m → m < l.length → okAt l top m = true := by
  induction d with
  | zero => intro n hd _ m h1 h2; omega
  | succ d ih =>
    intro n hd h m h1 h2
    simp only [risesFrom, Bool.and_eq_true] at h
    rcases Nat.lt_or_ge n m with h3 | h3
    · exact ih (n + 1) (by omega) h.2 m (by omega) h2
    · obtain rfl : m = n := by omega
      exact h.1
/-- What a list that rises is like. -/
theorem rises_ok {l : List Int} {top : Int} (h : rises l top = true) : (∀ x ∈ l, 0 ≤ x ∧ x ≤ top) ∧ l.Pairwise (· < ·) := by
  have H := risesFrom_ok l top l.length 0 (by omega) h
  have G : ∀ m (hm : m < l.length), 0 ≤ l[m] ∧ l[m] ≤ top ∧ ∀ h0 : 0 < m, l[m - 1]'(by omega) < l[m] := by
    intro m hm
    have := H m (by omega) hm
    unfold okAt at this
    have e : l.getD m 0 = l[m] := by rw [List.getD_eq_getElem?_getD, List.getElem?_eq_getElem hm]; rfl
    have e2 : ∀ h0 : 0 < m, l.getD (m - 1) 0 = l[m - 1]'(by omega) := fun h0 => by rw [List.getD_eq_getElem?_getD, List.getElem?_eq_getElem (by omega)]; rfl
    rw [e] at this
    simp only [Bool.and_eq_true, Bool.or_eq_true, Bool.not_eq_true', decide_eq_false_iff_not, decide_eq_true_eq] at this
    refine ⟨by omega, by omega, fun h0 => ?_⟩
    rw [e2 h0] at this
    omega
  refine ⟨fun x hx => ?_, ?_⟩
  · obtain ⟨i, hi, rfl⟩ := List.getElem_of_mem hx
    exact ⟨(G i hi).1, (G i hi).2.1⟩
  · rw [List.pairwise_iff_getElem]
    intro i j hi hj hij
    have key : ∀ d i (hi : i + d + 1 < l.length), l[i]'(by omega) < l[i + d + 1] := by
      intro d
      induction d with
      | zero =>
        intro i hi
        have := (G (i + 1) hi).2.2 (by omega)
        simpa using this
      | succ d ih =>
        intro i hi
        have h1 := ih i (by omega)
        have h2 := (G (i + (d + 1) + 1) hi).2.2 (by omega)
        have : i + (d + 1) + 1 - 1 = i + d + 1 := by omega
        simp only [this] at h2
        omega
    have := key (j - i - 1) i (by omega)
    have e : i + (j - i - 1) + 1 = j := by omega
    simpa only [e] using this

/-! Is a number in a list? -/
theorem index_l0 (l : List Int) (x : Int) (hl : l.length ≤ 1000) (d : Nat) : ∀ n, n ≤ l.length → l.length - n = d → ∃ r : Int, (r ≥ 0 ↔ x ∈ l.drop n) ∧ ∀ k, d + 1 ≤ k → slices_Index_int_int.l0 k l x (l.length : Int) (n : Int) = some r := by
  induction d with
  | zero =>
    intro n hn hd
    refine ⟨-1, ?_, fun k hk => ?_⟩
    · rw [List.drop_of_length_le (by omega)]; simp
    · obtain ⟨k, rfl⟩ : ∃ m, k = m + 1 := ⟨k - 1, by omega⟩
      simp only [slices_Index_int_int.l0]
      rw [if_neg (by omega)]
  | succ d ih =>
    intro n hn hd
    have hlt : n < l.length := by omega
    obtain ⟨r, h1, h2⟩ := ih (n + 1) (by omega) (by omega)
    by_cases e : x = l[n]
    · refine ⟨n, ⟨fun _ => ?_, fun _ => by omega⟩, fun k hk => ?_⟩
      · rw [List.drop_eq_getElem_cons hlt, e]; exact List.mem_cons_self
      · obtain ⟨k, rfl⟩ : ∃ m, k = m + 1 := ⟨k - 1, by omega⟩
        simp only [slices_Index_int_int.l0]
        rw [if_pos (by omega), if_pos (by omega), if_pos (by omega), rd_at hlt, if_pos e]
    · refine ⟨r, ?_, fun k hk => ?_⟩
      · rw [h1, List.drop_eq_getElem_cons hlt, List.mem_cons]
        exact ⟨.inr, fun h => h.resolve_left e⟩
      · obtain ⟨k, rfl⟩ : ∃ m, k = m + 1 := ⟨k - 1, by omega⟩
        simp only [slices_Index_int_int.l0]
        rw [if_pos (by omega), if_pos (by omega), if_pos (by omega), rd_at hlt, if_neg e, wrap_next (show n < 4611686018427387904 by omega), h2 k (by omega)]
theorem contains_eq (l : List Int) (x : Int) (hl : l.length ≤ 1000) (k : Nat) (hk : l.length + 1 ≤ k) : slices_Contains_int_int.f k l x = some (decide (x ∈ l)) := by
  unfold slices_Contains_int_int.f slices_Index_int_int.f
  obtain ⟨r, h1, h2⟩ := index_l0 l x hl l.length 0 (by omega) (by omega)
  have := h2 k hk
  rw [show ((0 : Nat) : Int) = 0 from rfl] at this
  rw [this]
  rw [List.drop_zero] at h1
  simp only [Option.bind_some]
  congr 1
  rw [decide_eq_decide]
  exact h1
theorem in_l0 (l : List Int) (x : Int) (hl : l.length ≤ 1000) (d : Nat) : ∀ n, n ≤ l.length → l.length - n = d → ∀ k, d + 1 ≤ k → supercargoref02_in.l0 k l x (n : Int) = some (decide (x ∈ l.drop n)) := by
  induction d with
  | zero =>
    intro n hn hd k hk
    obtain ⟨k, rfl⟩ : ∃ m, k = m + 1 := ⟨k - 1, by omega⟩
    simp only [supercargoref02_in.l0]
    rw [if_neg (by omega), List.drop_of_length_le (by omega)]
    simp
  | succ d ih =>
    intro n hn hd k hk
    obtain ⟨k, rfl⟩ : ∃ m, k = m + 1 := ⟨k - 1, by omega⟩
    have hlt : n < l.length := by omega
    have h2 := ih (n + 1) (by omega) (by omega) k (by omega)
    simp only [supercargoref02_in.l0]
    have c1 : (n : Int) < (l.length : Int) := by omega
    have c2 : (0 : Int) ≤ (n : Int) := by omega
    simp only [c1, c2, ↓reduceIte]
    rw [rd_at hlt, List.drop_eq_getElem_cons hlt]
    by_cases e : l[n] = x
    · rw [if_pos e]; simp [e]
    · rw [if_neg e, wrap_next (show n < 4611686018427387904 by omega), h2]
      have e' : ¬ x = l[n] := fun h => e h.symm
      congr 1
      rw [decide_eq_decide, List.mem_cons]
      exact ⟨.inr, fun h => h.resolve_left e'⟩
theorem in_eq (l : List Int) (x : Int) (hl : l.length ≤ 1000) (k : Nat) (hk : l.length + 1 ≤ k) : supercargoref02_in.f k l x = some (decide (x ∈ l)) := by
  unfold supercargoref02_in.f
  have := in_l0 l x hl l.length 0 (by omega) (by omega) k hk
  rwa [List.drop_zero] at this
end Go.Proofs.YtpmclpblnhjjeaaDoor.Pure
