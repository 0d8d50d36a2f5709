/- Decimal digits: a number's own, and so many of them; what a row of digits spells. Plain lists of bytes. -/
import Derived.Lib.ItoaNum
import Derived.Lib.ParseIntB
namespace Dec
open Go.Lib
/-- The byte of the last digit. -/
def dg (n : Nat) : UInt8 := UInt8.ofNat (48 + n % 10)
theorem dg_nat (n : Nat) : (dg n).toNat = 48 + n % 10 := by
  unfold dg
  rw [UInt8.toNat_ofNat']
  omega
/-- Just so many digits, the last ones. -/
def pad : Nat → Nat → List UInt8
  | 0, _ => []
  | d + 1, n => pad d (n / 10) ++ [dg n]
theorem pad_length : ∀ d n, (pad d n).length = d
  | 0, _ => rfl
  | d + 1, n => by simp [pad, pad_length d (n / 10)]
theorem dec_small {n : Nat} (h : n < 10) : decDigits n = [dg n] := by
  rw [decDigits_one h]; unfold dg; rw [Nat.mod_eq_of_lt h]
theorem dec_big {n : Nat} (h : 10 ≤ n) : decDigits n = decDigits (n / 10) ++ [dg n] := by
  rw [decDigits, dif_neg (by omega)]; rfl
theorem dec_split : ∀ (d n : Nat), 10 ^ d ≤ n → decDigits n = if n / 10 ^ d = 0 then pad d n else decDigits (n / 10 ^ d) ++ pad d n
  | 0, n, h => by
    rw [Nat.pow_zero, Nat.div_one]
    rw [Nat.pow_zero] at h
    rw [if_neg (by omega)]; simp [pad]
  | d + 1, n, h => by
    have e : n / 10 ^ (d + 1) = n / 10 / 10 ^ d := by rw [Nat.pow_succ, Nat.mul_comm, Nat.div_div_eq_div_mul]
    have h10 : 10 ≤ n := by
      have : 1 ≤ 10 ^ d := Nat.one_le_pow _ _ (by omega)
      rw [Nat.pow_succ] at h; omega
    have h2 : 10 ^ d ≤ n / 10 := by rw [Nat.pow_succ] at h; omega
    rw [dec_big h10, dec_split d (n / 10) h2, e]
    have h3 : n / 10 / 10 ^ d ≠ 0 := by
      have := Nat.div_pos h2 (Nat.one_le_pow _ _ (by omega) : 0 < 10 ^ d)
      omega
    rw [if_neg h3, if_neg h3, List.append_assoc]; rfl
theorem dec_split' {d n : Nat} (h : 10 ^ d ≤ n) : decDigits n = decDigits (n / 10 ^ d) ++ pad d n := by
  rw [dec_split d n h, if_neg]
  have := Nat.div_pos h (Nat.one_le_pow _ _ (by omega) : 0 < 10 ^ d)
  omega
def zeros (n : Nat) : List UInt8 := List.replicate n 48
theorem pad_zero : ∀ d, pad d 0 = zeros d
  | 0 => rfl
  | d + 1 => by
    show pad d (0 / 10) ++ [dg 0] = zeros (d + 1)
    rw [Nat.zero_div, pad_zero d]
    unfold zeros
    rw [List.replicate_succ', show dg 0 = 48 from by decide]
theorem len_le {d n : Nat} (h : n < 10 ^ (d + 1)) : (decDigits n).length ≤ d + 1 := by
  induction d generalizing n with
  | zero => rw [dec_small (by simpa using h)]; simp
  | succ d ih =>
    by_cases h10 : n < 10
    · rw [dec_small h10]; simp
    · have := ih (n := n / 10) (by rw [Nat.pow_succ] at h; omega)
      rw [dec_big (by omega)]; simp; omega
theorem len_gt {d n : Nat} (h : 10 ^ d ≤ n) : d < (decDigits n).length := by
  rw [dec_split' h]
  have : 0 < (decDigits (n / 10 ^ d)).length := by
    rw [decDigits_length]
    by_cases h10 : n / 10 ^ d < 10
    · rw [nDigits_small h10]; omega
    · rw [nDigits_big h10]; omega
  simp [pad_length]; omega
/-- A small number, with noughts ahead of it. -/
theorem zeros_dec {d n : Nat} (h : n < 10 ^ (d + 1)) : zeros (d + 1 - (decDigits n).length) ++ decDigits n = pad (d + 1) n := by
  induction d generalizing n with
  | zero => rw [dec_small (by simpa using h)]; simp [zeros, pad]
  | succ d ih =>
    by_cases h10 : n < 10
    · rw [dec_small h10]
      show zeros (d + 1 + 1 - 1) ++ [dg n] = pad (d + 1) (n / 10) ++ [dg n]
      rw [show n / 10 = 0 by omega, pad_zero]; rfl
    · have := ih (n := n / 10) (by rw [Nat.pow_succ] at h; omega)
      rw [dec_big (by omega)]
      show _ = pad (d + 1) (n / 10) ++ [dg n]
      rw [← this]
      simp
theorem pad_add : ∀ (d e n : Nat), pad (e + d) n = pad e (n / 10 ^ d) ++ pad d n
  | 0, e, n => by simp [pad]
  | d + 1, e, n => by
    have e1 : n / 10 ^ (d + 1) = n / 10 / 10 ^ d := by rw [Nat.pow_succ, Nat.mul_comm, Nat.div_div_eq_div_mul]
    show pad (e + d) (n / 10) ++ [dg n] = pad e (n / 10 ^ (d + 1)) ++ (pad d (n / 10) ++ [dg n])
    rw [pad_add d e (n / 10), e1, List.append_assoc]
theorem pad_mod : ∀ (d n : Nat), pad d (n % 10 ^ d) = pad d n
  | 0, _ => rfl
  | d + 1, n => by
    have e1 : n % 10 ^ (d + 1) / 10 = n / 10 % 10 ^ d := by rw [Nat.pow_succ, Nat.mul_comm, Nat.mod_mul_right_div_self]
    have e2 : dg (n % 10 ^ (d + 1)) = dg n := by
      unfold dg
      rw [Nat.pow_succ, Nat.mul_comm, Nat.mod_mul_right_mod]
    show pad d (n % 10 ^ (d + 1) / 10) ++ [dg (n % 10 ^ (d + 1))] = pad d (n / 10) ++ [dg n]
    rw [e1, e2, pad_mod d (n / 10)]
/-- All digits. -/
def isDig (b : UInt8) : Bool := decide (48 ≤ b.toNat) && decide (b.toNat ≤ 57)
theorem dg_dig (n : Nat) : isDig (dg n) = true := by
  unfold isDig
  rw [dg_nat, decide_eq_true (by omega), decide_eq_true (by omega)]; rfl
theorem pad_all : ∀ d n, (pad d n).all isDig = true
  | 0, _ => rfl
  | d + 1, n => by
    show (pad d (n / 10) ++ [dg n]).all isDig = true
    rw [List.all_append, pad_all d (n / 10)]
    simp [dg_dig]
theorem dec_all (n : Nat) : (decDigits n).all isDig = true := by
  induction n using Nat.strongRecOn with
  | ind n ih =>
    by_cases h10 : n < 10
    · rw [dec_small h10]; simp [dg_dig]
    · rw [dec_big (by omega), List.all_append, ih (n / 10) (by omega)]
      simp [dg_dig]
/-- What a row of digits spells, behind what is read already. -/
def val (acc : Nat) : List UInt8 → Nat
  | [] => acc
  | c :: r => val (acc * 10 + (c.toNat - 48)) r
theorem val_app : ∀ (l r : List UInt8) (acc : Nat), val acc (l ++ r) = val (val acc l) r
  | [], _, _ => rfl
  | _ :: l, r, _ => val_app l r _
theorem val_dg (acc n : Nat) : val acc [dg n] = acc * 10 + n % 10 := by
  show acc * 10 + ((dg n).toNat - 48) = _
  rw [dg_nat]; omega
theorem pow_step (d n : Nat) : n % 10 ^ (d + 1) = n % 10 + 10 * (n / 10 % 10 ^ d) := by rw [Nat.pow_succ, Nat.mul_comm, Nat.mod_mul]
theorem val_pad (d : Nat) : ∀ (n acc : Nat), val acc (pad d n) = acc * 10 ^ d + n % 10 ^ d := by
  induction d with
  | zero =>
    intro n acc
    rw [Nat.pow_zero, Nat.mul_one, Nat.mod_one]
    rfl
  | succ d ih =>
    intro n acc
    have e2 : acc * 10 ^ (d + 1) = acc * 10 ^ d * 10 := by rw [Nat.pow_succ, Nat.mul_assoc]
    show val acc (pad d (n / 10) ++ [dg n]) = _
    rw [val_app, val_dg, ih (n / 10) acc, pow_step, e2]
    generalize acc * 10 ^ d = X
    generalize n / 10 % 10 ^ d = Y
    omega
theorem val_dec (n : Nat) : val 0 (decDigits n) = n := by
  induction n using Nat.strongRecOn with
  | ind n ih =>
    by_cases h10 : n < 10
    · rw [dec_small h10, val_dg]; omega
    · rw [dec_big (by omega), val_app, ih (n / 10) (by omega), val_dg]; omega
theorem val_mono : ∀ (l : List UInt8) (acc : Nat), acc ≤ val acc l
  | [], _ => Nat.le_refl _
  | c :: r, acc => Nat.le_trans (by omega) (val_mono r (acc * 10 + (c.toNat - 48)))
theorem parse_val : ∀ (l : List UInt8) (acc : Nat), l.all isDig = true → val acc l < 1000000000000000000 → parseUintM 18446744073709551615 acc l = .ok (val acc l)
  | [], _, _, _ => rfl
  | c :: r, acc, h, hb => by
    rw [List.all_cons, Bool.and_eq_true] at h
    have h1 := h.1
    unfold isDig at h1
    rw [Bool.and_eq_true, decide_eq_true_eq, decide_eq_true_eq] at h1
    have hm := val_mono r (acc * 10 + (c.toNat - 48))
    have hb' : val (acc * 10 + (c.toNat - 48)) r < 1000000000000000000 := hb
    unfold parseUintM
    rw [if_pos h1, if_neg (by omega), if_neg (by omega)]
    exact parse_val r _ h.2 hb
theorem parseB_val {l : List UInt8} (hl : l ≠ []) (h : l.all isDig = true) (hb : val 0 l < 1000000000000000000) : parseUintB 64 l = .ok (val 0 l) := by
  unfold parseUintB
  rw [if_neg hl]
  exact parse_val l 0 h hb
theorem p63 : (2 : Nat) ^ (64 - 1) = 9223372036854775808 := by decide
theorem parseInt_digits {l : List UInt8} (hl : l ≠ []) (h : l.all isDig = true) (hb : val 0 l < 1000000000000000000) : parseIntB 64 l = .ok (val 0 l : Int) := by
  cases l with
  | nil => exact absurd rfl hl
  | cons c r =>
    have hc := h
    rw [List.all_cons, Bool.and_eq_true] at hc
    have h1 := hc.1
    unfold isDig at h1
    rw [Bool.and_eq_true, decide_eq_true_eq, decide_eq_true_eq] at h1
    unfold parseIntB
    simp only []
    rw [if_neg (by omega), parseB_val (by simp) h hb]
    simp only []
    rw [if_neg (fun x => by have := x.2; rw [p63] at this; omega), if_neg (fun x => by omega), if_neg (by omega)]
theorem parseInt_minus {l : List UInt8} (hl : l ≠ []) (h : l.all isDig = true) (hb : val 0 l < 1000000000000000000) : parseIntB 64 (45 :: l) = .ok (-(val 0 l : Int)) := by
  have hc : (45 : UInt8).toNat = 45 := rfl
  unfold parseIntB
  simp only []
  rw [if_pos (by rw [hc]; omega), parseB_val hl h hb]
  simp only []
  rw [if_neg (fun x => x.1 hc), if_neg (fun x => by have := x.2; rw [p63] at this; omega), if_pos hc]
end Dec
