/- A text of ten bytes: its form, and the numbers in it, in plain Lean. -/
import Derived.Test.YtpmclpblnhjjeaaDoorPureBase
import Derived.Test.YtpmclpblnhjjeaaDoorPx11
namespace Go.Proofs.YtpmclpblnhjjeaaDoor.Pure
open Go.RowKit Go.Proofs.YtpmclpblnhjjeaaDoor.P Go.Proofs.YtpmclpblnhjjeaaDoorW.PrintWords Go.Proofs.YtpmclpblnhjjeaaDoorW.PrintLast
theorem bt_nat (t : ByteArray) (n : Nat) (h : n < t.data.toList.length) : bt t (n : Int) = ((t.data.toList[n]).toNat : Int) := by
  have h' : n < t.size := by simpa using h
  unfold bt
  rw [dif_pos (by simpa using h')]
  rfl
def isDig (b : UInt8) : Bool := decide (48 ≤ b.toNat) && decide (b.toNat ≤ 57)
/-- The number that a row of bytes spells; -1: not digits all. -/
def numOf (l : List UInt8) : Int := match Lib.decFrom 0 l with | some n => (n : Int) | none => -1
def numAt (acc : Nat) (l : List UInt8) : Int := match Lib.decFrom acc l with | some n => (n : Int) | none => -1
theorem numAt_nil (acc : Nat) : numAt acc [] = (acc : Int) := rfl
theorem numAt_cons (acc : Nat) (b : UInt8) (r : List UInt8) : numAt acc (b :: r) = if 48 ≤ b.toNat ∧ b.toNat ≤ 57 then numAt (acc * 10 + (b.toNat - 48)) r else -1 := by
  unfold numAt
  simp only [Lib.decFrom, Lib.digitVal]
  by_cases h : 48 ≤ b.toNat ∧ b.toNat ≤ 57
  · rw [if_pos h, if_pos h]
  · rw [if_neg h, if_neg h]
def pw : Nat → Nat
  | 0 => 1
  | n + 1 => pw n * 10
theorem pw_le {n : Nat} (h : n ≤ 10) : pw n ≤ 10000000000 := by
  have : ∀ m : Fin 11, pw m.val ≤ 10000000000 := by decide
  exact this ⟨n, by omega⟩
theorem nx_a (acc : Nat) (h : acc < 10000000000) : wrap64 (10 * (acc : Int)) = 10 * (acc : Int) := wrap_in (by omega) (by omega)
theorem nx_b (b : Nat) (h1 : 48 ≤ b) (h2 : b ≤ 57) : ((b : Int) - 48) % 256 = ((b - 48 : Nat) : Int) := by omega
theorem nx_c (acc b : Nat) (h : acc < 10000000000) (h1 : 48 ≤ b) (h2 : b ≤ 57) : wrap64 (10 * (acc : Int) + ((b - 48 : Nat) : Int)) = ((acc * 10 + (b - 48) : Nat) : Int) := by rw [wrap_in (by omega) (by omega)]; omega
theorem number_l0 (t : ByteArray) (hl : t.data.toList.length ≤ 10) (d : Nat) : ∀ n acc : Nat, n ≤ t.data.toList.length → t.data.toList.length - n = d → acc < pw n → ∀ k, d + 1 ≤ k →
    supercargoref02_number.l0 k t (acc : Int) (n : Int) = some (numAt acc (t.data.toList.drop n)) := by
  have hs : (t.size : Int) = (t.data.toList.length : Int) := by simp
  induction d with
  | zero =>
    intro n acc hn hd ha k hk
    obtain ⟨k, rfl⟩ : ∃ j, k = j + 1 := ⟨k - 1, by omega⟩
    simp only [supercargoref02_number.l0]
    rw [hs, if_neg (by omega), List.drop_of_length_le (by omega), numAt_nil]
  | succ d ih =>
    intro n acc hn hd ha k hk
    obtain ⟨k, rfl⟩ : ∃ j, k = j + 1 := ⟨k - 1, by omega⟩
    have hlt : n < t.data.toList.length := by omega
    have hp := pw_le (show n ≤ 10 by omega)
    have hp2 : pw (n + 1) = pw n * 10 := rfl
    simp only [supercargoref02_number.l0]
    rw [hs, if_pos (show (n : Int) < (t.data.toList.length : Int) by omega), if_pos (show (0 : Int) ≤ (n : Int) by omega), bt_nat t n hlt, List.drop_eq_getElem_cons hlt, numAt_cons]
    generalize hb : (t.data.toList[n]).toNat = b
    have hn10 : n ≤ 10 := by omega
    clear hs hl
    by_cases c1 : b < 48
    · rw [if_pos (show (b : Int) < 48 by omega), if_neg (show ¬ (48 ≤ b ∧ b ≤ 57) by omega)]
    · rw [if_neg (show ¬ (b : Int) < 48 by omega)]
      by_cases c2 : b > 57
      · rw [if_pos (show (b : Int) > 57 by omega), if_neg (show ¬ (48 ≤ b ∧ b ≤ 57) by omega)]
      · rw [if_neg (show ¬ (b : Int) > 57 by omega), if_pos (show 48 ≤ b ∧ b ≤ 57 by omega)]
        rw [nx_a acc (Nat.lt_of_lt_of_le ha hp), nx_b b (by omega) (by omega), nx_c acc b (Nat.lt_of_lt_of_le ha hp) (by omega) (by omega), wrap_next (show n < 4611686018427387904 by omega)]
        exact ih (n + 1) (acc * 10 + (b - 48)) (by omega) (by omega) (by rw [hp2]; omega) k (by omega)
theorem number_eq (t : ByteArray) (hl : t.data.toList.length ≤ 10) {k : Nat} (hk : 11 ≤ k) : supercargoref02_number.f k t = some (numOf t.data.toList) := by
  have h := number_l0 t hl t.data.toList.length 0 0 (Nat.zero_le _) (Nat.sub_zero _) Nat.one_pos k (by omega)
  rw [List.drop_zero] at h
  unfold supercargoref02_number.f
  rw [show (0 : Int) = ((0 : Nat) : Int) from rfl, h]
  rfl
theorem atoi_dec {b : UInt8} {r : List UInt8} {n : Nat} (h : Lib.decFrom 0 (b :: r) = some n) : Lib.atoi (b :: r) = some (n : Int) := by
  have hb : 48 ≤ b.toNat ∧ b.toNat ≤ 57 := by
    simp only [Lib.decFrom, Lib.digitVal] at h
    by_cases c : 48 ≤ b.toNat ∧ b.toNat ≤ 57
    · exact c
    · rw [if_neg c] at h; cases h
  have h1 : (b == 45) = false := by rw [beq_eq_false_iff_ne]; intro e; subst e; revert hb; decide
  have h2 : (b == 43) = false := by rw [beq_eq_false_iff_ne]; intro e; subst e; revert hb; decide
  simp only [Lib.atoi, h1, h2, Bool.false_eq_true, ↓reduceIte, Lib.decNat, List.isEmpty_cons, h, Option.map_some]
theorem dec2 (a b : UInt8) : Lib.decFrom 0 [a, b] = if isDig a = true ∧ isDig b = true then some (10 * (a.toNat - 48) + (b.toNat - 48)) else none := by
  unfold isDig
  simp only [Lib.decFrom, Lib.digitVal, Bool.and_eq_true, decide_eq_true_eq]
  by_cases h1 : 48 ≤ a.toNat ∧ a.toNat ≤ 57
  · by_cases h2 : 48 ≤ b.toNat ∧ b.toNat ≤ 57
    · rw [if_pos h1]
      simp only [if_pos h2]
      rw [if_pos ⟨h1, h2⟩]
      congr 1; omega
    · rw [if_pos h1]
      simp only [if_neg h2]
      rw [if_neg (fun z => h2 z.2)]
  · simp only [if_neg h1]
    rw [if_neg (fun z => h1 z.1)]
theorem dec4 (a b c d : UInt8) : Lib.decFrom 0 [a, b, c, d] = if isDig a = true ∧ isDig b = true ∧ isDig c = true ∧ isDig d = true then some (1000 * (a.toNat - 48) + 100 * (b.toNat - 48) + 10 * (c.toNat - 48) + (d.toNat - 48)) else none := by
  unfold isDig
  simp only [Lib.decFrom, Lib.digitVal, Bool.and_eq_true, decide_eq_true_eq]
  by_cases h1 : 48 ≤ a.toNat ∧ a.toNat ≤ 57
  · rw [if_pos h1]
    by_cases h2 : 48 ≤ b.toNat ∧ b.toNat ≤ 57
    · simp only [if_pos h2]
      by_cases h3 : 48 ≤ c.toNat ∧ c.toNat ≤ 57
      · simp only [if_pos h3]
        by_cases h4 : 48 ≤ d.toNat ∧ d.toNat ≤ 57
        · simp only [if_pos h4]
          rw [if_pos ⟨h1, h2, h3, h4⟩]
          congr 1; omega
        · simp only [if_neg h4]
          rw [if_neg (fun z => h4 z.2.2.2)]
      · simp only [if_neg h3]
        rw [if_neg (fun z => h3 z.2.2.1)]
    · simp only [if_neg h2]
      rw [if_neg (fun z => h2 z.2.1)]
  · simp only [if_neg h1]
    rw [if_neg (fun z => h1 z.1)]
/-! The form. -/
def okB (l : List UInt8) (n : Nat) : Bool := if n = 4 ∨ n = 7 then (l.getD n 0).toNat == 45 else isDig (l.getD n 0)
def okFrom (l : List UInt8) : Nat → Nat → Bool
  | 0, _ => true
  | d + 1, n => okB l n && okFrom l d (n + 1)
theorem form_l0 (t : ByteArray) (hl : t.data.toList.length = 10) (d : Nat) : ∀ n : Nat, n ≤ 10 → 10 - n = d → ∀ k, d + 1 ≤ k →
    day_form.l0 k t 10 (n : Int) = some (okFrom t.data.toList d n) := by
  have hs : (t.size : Int) = 10 := by have : t.size = t.data.toList.length := by simp
                                      omega
  induction d with
  | zero =>
    intro n hn hd k hk
    obtain ⟨k, rfl⟩ : ∃ j, k = j + 1 := ⟨k - 1, by omega⟩
    simp only [day_form.l0, okFrom]
    rw [if_neg (by omega)]
  | succ d ih =>
    intro n hn hd k hk
    obtain ⟨k, rfl⟩ : ∃ j, k = j + 1 := ⟨k - 1, by omega⟩
    have hlt : n < t.data.toList.length := by omega
    have c1 : (n : Int) < 10 := by omega
    have c2 : (0 : Int) ≤ (n : Int) := by omega
    have h2 := ih (n + 1) (by omega) (by omega) k (by omega)
    have hg : t.data.toList.getD n 0 = t.data.toList[n] := by rw [List.getD_eq_getElem?_getD, List.getElem?_eq_getElem hlt]; rfl
    simp only [day_form.l0, okFrom, okB]
    rw [hs, bt_nat t n hlt, hg]
    simp only [c1, c2, ↓reduceIte]
    rw [wrap_next (show n < 4611686018427387904 by omega), h2]
    unfold isDig
    generalize (t.data.toList[n]).toNat = b
    generalize okFrom t.data.toList d (n + 1) = q
    by_cases c4 : n = 4
    · rw [if_pos (show (n : Int) = 4 by omega), if_pos (show n = 4 ∨ n = 7 from .inl c4)]
      by_cases cb : b = 45
      · rw [if_pos (show (b : Int) = 45 by omega)]; simp [cb]
      · rw [if_neg (show ¬ (b : Int) = 45 by omega)]; simp [cb]
    · rw [if_neg (show ¬ (n : Int) = 4 by omega)]
      by_cases c7 : n = 7
      · rw [if_pos (show (n : Int) = 7 by omega), if_pos (show n = 4 ∨ n = 7 from .inr c7)]
        by_cases cb : b = 45
        · rw [if_pos (show (b : Int) = 45 by omega)]; simp [cb]
        · rw [if_neg (show ¬ (b : Int) = 45 by omega)]; simp [cb]
      · rw [if_neg (show ¬ (n : Int) = 7 by omega), if_neg (show ¬ (n = 4 ∨ n = 7) by omega)]
        by_cases d1 : b < 48
        · rw [if_pos (show (b : Int) < 48 by omega), decide_eq_false (show ¬ 48 ≤ b by omega)]; rfl
        · rw [if_neg (show ¬ (b : Int) < 48 by omega), decide_eq_true (show 48 ≤ b by omega)]
          by_cases d2 : b > 57
          · rw [if_pos (show (b : Int) > 57 by omega), decide_eq_false (show ¬ b ≤ 57 by omega)]; rfl
          · rw [if_neg (show ¬ (b : Int) > 57 by omega), decide_eq_true (show b ≤ 57 by omega)]; rfl
theorem form_eq (t : ByteArray) (hl : t.data.toList.length = 10) {k : Nat} (hk : 11 ≤ k) : day_form.f k t = some (okFrom t.data.toList 10 0) := by
  unfold day_form.f
  have hs : (t.size : Int) = 10 := by have : t.size = t.data.toList.length := by simp
                                      omega
  rw [hs, if_pos rfl]
  exact form_l0 t hl 10 0 (by omega) (by omega) k hk
theorem extract_list (s : ByteArray) (i j : Nat) : (s.extract i j).data.toList = (s.data.toList.drop i).take (j - i) := by
  rw [ByteArray.data_extract, Array.toList_extract, List.extract_eq_take_drop]
end Go.Proofs.YtpmclpblnhjjeaaDoor.Pure
