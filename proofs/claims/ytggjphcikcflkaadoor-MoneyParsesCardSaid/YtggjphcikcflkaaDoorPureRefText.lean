/- The text of money as the document says it, in plain Lean: it is the program's. -/
import Derived.Test.YtggjphcikcflkaaDoorPureMay
import Derived.Test.YtggjphcikcflkaaDoorPx24
namespace Go.Proofs.YtggjphcikcflkaaDoor.Pure
open Go.RowKit Go.Proofs.YtggjphcikcflkaaDoor.P Go.Proofs.YtggjphcikcflkaaDoorW.PrintWords Go.Proofs.YtggjphcikcflkaaDoorW.PrintLast Go.Proofs.YtggjphcikcflkaaDoorW.PrintMore
open Lib (decDigits)
theorem refDigits_eq (s : ByteArray) {k : Nat} (hk : 1 ≤ k) : supercargoref01_Digits.f k s = some (dgs s : Int) := by
  obtain ⟨k, rfl⟩ : ∃ j, k = j + 1 := ⟨k - 1, by omega⟩
  unfold supercargoref01_Digits.f dgs
  simp only [supercargoref01_Digits.j0, ByteArray.toList_eq, dgs_tail]
  generalize s.data.toList = l
  by_cases h1 : l = [74, 80, 89]
  · subst h1
    rfl
  · rw [if_neg h1]
    by_cases h2 : l = [75, 82, 87]
    · subst h2
      rfl
    · have hb : (l == ([75, 82, 87] : List UInt8)) = false := by simpa using h2
      rw [hb, if_neg (by simp), if_neg (show ¬ (l = [74, 80, 89] ∨ l = [75, 82, 87]) from fun h => h.elim h1 h2)]
theorem byte_of (n : Nat) : strOfNums [(wrap64 (48 + (Int.tmod (n : Int) 10))) % 256] = strD [Dec.dg n] := by
  have e : (wrap64 (48 + (Int.tmod (n : Int) 10))) % 256 = ((48 + n % 10 : Nat) : Int) := by
    have : Int.tmod (n : Int) 10 = ((n % 10 : Nat) : Int) := rfl
    rw [this, wrap_in (by omega) (by omega)]
    omega
  rw [e]
  rfl
theorem tdiv_ten (n : Nat) (h : n ≤ 9223372036854775807) : wrap64 (Int.tdiv (n : Int) 10) = ((n / 10 : Nat) : Int) := by
  have : Int.tdiv (n : Int) 10 = ((n / 10 : Nat) : Int) := rfl
  rw [this, wrap_in (by omega) (by omega)]
/-- Just so many digits: what is still wanting. -/
theorem whole_pad (m : Nat) : ∀ (n : Nat) (acc : List UInt8) (least : Nat), n < 10 ^ m → n ≤ 9223372036854775807 → acc.length + m = least → least ≤ 100 → ∀ k, m + 1 ≤ k →
    supercargoref01_whole.l0 k (n : Int) (least : Int) (strD acc) = some (strD (Dec.pad m n ++ acc)) := by
  induction m with
  | zero =>
    intro n acc least hn hb hl hle k hk
    obtain ⟨k, rfl⟩ : ∃ j, k = j + 1 := ⟨k - 1, by omega⟩
    simp only [supercargoref01_whole.l0]
    rw [if_neg (by omega), if_neg (by rw [strD_size]; omega)]; rfl
  | succ m ih =>
    intro n acc least hn hb hl hle k hk
    obtain ⟨k, rfl⟩ : ∃ j, k = j + 1 := ⟨k - 1, by omega⟩
    have hrec := ih (n / 10) (Dec.dg n :: acc) least (by rw [Nat.pow_succ] at hn; omega) (by omega) (by rw [List.length_cons]; omega) hle k (by omega)
    have hc : strD [Dec.dg n] ++ strD acc = strD (Dec.dg n :: acc) := strD_app _ _
    have hp : Dec.pad (m + 1) n ++ acc = Dec.pad m (n / 10) ++ (Dec.dg n :: acc) := by
      show (Dec.pad m (n / 10) ++ [Dec.dg n]) ++ acc = _
      rw [List.append_assoc]; rfl
    have hsz : (strD [Dec.dg n]).size + (strD acc).size ≤ 9223372036854775807 := by rw [strD_size, strD_size]; simp; omega
    rw [hp]
    simp only [supercargoref01_whole.l0, Option.bind_some]
    rw [byte_of, tdiv_ten n hb, hc, if_pos hsz]
    by_cases h0 : (n : Int) > 0
    · rw [if_pos h0]; exact hrec
    · rw [if_neg h0, if_pos (by rw [strD_size]; omega)]; exact hrec
/-- All digits. -/
theorem whole_dec (n : Nat) : ∀ (acc : List UInt8), 1 ≤ acc.length → acc.length + n ≤ 9000000000000000000 → ∀ k, n + 1 ≤ k →
    supercargoref01_whole.l0 k (n : Int) 1 (strD acc) = some (strD ((if n = 0 then [] else decDigits n) ++ acc)) := by
  induction n using Nat.strongRecOn with
  | ind n ih =>
    intro acc ha hb k hk
    obtain ⟨k, rfl⟩ : ∃ j, k = j + 1 := ⟨k - 1, by omega⟩
    by_cases h0 : n = 0
    · subst h0
      simp only [supercargoref01_whole.l0]
      rw [if_neg (by omega), if_neg (by rw [strD_size]; omega), if_pos trivial]; rfl
    · have hrec := ih (n / 10) (by omega) (Dec.dg n :: acc) (by simp) (by rw [List.length_cons]; omega) k (by omega)
      have hc : strD [Dec.dg n] ++ strD acc = strD (Dec.dg n :: acc) := strD_app _ _
      have hsz : (strD [Dec.dg n]).size + (strD acc).size ≤ 9223372036854775807 := by rw [strD_size, strD_size]; simp; omega
      simp only [supercargoref01_whole.l0, Option.bind_some]
      rw [if_pos (by omega), byte_of, tdiv_ten n (by omega), hc, if_pos hsz, hrec, if_neg h0]
      congr 2
      by_cases h10 : n < 10
      · rw [if_pos (by omega), Dec.dec_small h10]; rfl
      · rw [if_neg (show ¬ n / 10 = 0 by omega), Dec.dec_big (n := n) (by omega), List.append_assoc]; rfl
theorem whole_one {n : Nat} (hn : n ≤ 1099511627776) {k : Nat} (hk : n + 2 ≤ k) : supercargoref01_whole.f k (n : Int) 1 = some (strD (decDigits n)) := by
  unfold supercargoref01_whole.f
  obtain ⟨k, rfl⟩ : ∃ j, k = j + 1 := ⟨k - 1, by omega⟩
  have hrec := whole_dec (n / 10) [Dec.dg n] (by simp) (by simp; omega) k (by omega)
  have hc : strD [Dec.dg n] ++ (⟨#[]⟩ : ByteArray) = strD [Dec.dg n] := strD_app [Dec.dg n] []
  have hsz : (strD [Dec.dg n]).size + (⟨#[]⟩ : ByteArray).size ≤ 9223372036854775807 := by rw [strD_size]; show 1 + 0 ≤ 9223372036854775807; omega
  have hd : (if n / 10 = 0 then [] else decDigits (n / 10)) ++ [Dec.dg n] = decDigits n := by
    by_cases h10 : n < 10
    · rw [if_pos (by omega), Dec.dec_small h10]; rfl
    · rw [if_neg (show ¬ n / 10 = 0 by omega), Dec.dec_big (n := n) (by omega)]
  rw [hd] at hrec
  simp only [supercargoref01_whole.l0, Option.bind_some]
  rw [byte_of, tdiv_ten n (by omega), hc, if_pos hsz]
  by_cases h0 : (n : Int) > 0
  · rw [if_pos h0]; exact hrec
  · rw [if_neg h0, if_pos (by decide)]; exact hrec
theorem unit_l0 {x : Nat} {g : ByteArray} (hx : x ≤ 1099511627776) (hg : g.size ≤ 20) (m : Nat) : ∀ i d : Nat, i + m = d → d ≤ 3 → ∀ k, x + 10 + m ≤ k →
    supercargoref01_Text.l0 k (x : Int) g (d : Int) ((10 ^ i : Nat) : Int) (i : Int) = some (g ++ strD (numT d x)) := by
  induction m with
  | zero =>
    intro i d hi hd k hk
    obtain rfl : i = d := by omega
    obtain ⟨k, rfl⟩ : ∃ j, k = j + 1 := ⟨k - 1, by omega⟩
    have hp : 0 < 10 ^ i := Nat.pow_pos (by omega)
    have hp3 : 10 ^ i ≤ 10 ^ 3 := Nat.pow_le_pow_right (by omega) hd
    simp only [supercargoref01_Text.l0]
    rw [if_neg (by omega), if_neg (by omega)]
    have e1 : wrap64 (Int.tdiv (x : Int) ((10 ^ i : Nat) : Int)) = ((x / 10 ^ i : Nat) : Int) := by
      have h : Int.tdiv (x : Int) ((10 ^ i : Nat) : Int) = ((x / 10 ^ i : Nat) : Int) := rfl
      have hq := Nat.div_le_self x (10 ^ i)
      rw [h]
      generalize x / 10 ^ i = q at hq
      exact wrap_in (by omega) (by omega)
    have e2 : Int.tmod (x : Int) ((10 ^ i : Nat) : Int) = ((x % 10 ^ i : Nat) : Int) := rfl
    have hq := Nat.div_le_self x (10 ^ i)
    have hl := dec_len (n := x / 10 ^ i) (by omega)
    rw [e1, e2, whole_one (by omega) (by omega), Option.bind_some, if_pos (by rw [strD_size]; omega)]
    unfold numT
    by_cases h0 : i = 0
    · subst h0
      rw [if_neg (by omega), if_pos rfl]
      congr 3
      rw [Nat.pow_zero, Nat.div_one]
    · rw [if_pos (by omega), if_neg h0]
      have hw := whole_pad i (x % 10 ^ i) [] i (Nat.mod_lt _ hp) (by have := Nat.mod_le x (10 ^ i); omega) (by simp) (by omega) k (by omega)
      have hlp := Dec.pad_length i x
      rw [List.append_nil, Dec.pad_mod] at hw
      unfold supercargoref01_whole.f
      rw [s0, hw, Option.bind_some, if_pos (by rw [strD_size]; omega), s46, strD_app, if_pos (by rw [ByteArray.size_append, strD_size, strD_size, List.length_append]; simp; omega)]
      rw [ByteArray.append_assoc, strD_app]
  | succ m ih =>
    intro i d hi hd k hk
    obtain ⟨k, rfl⟩ : ∃ j, k = j + 1 := ⟨k - 1, by omega⟩
    have hp3 : 10 ^ i ≤ 10 ^ 3 := Nat.pow_le_pow_right (by omega) (by omega)
    simp only [supercargoref01_Text.l0]
    have e : wrap64 ((10 : Int) * ((10 ^ i : Nat) : Int)) = ((10 ^ (i + 1) : Nat) : Int) := by
      rw [Nat.pow_succ]
      generalize 10 ^ i = P at hp3
      rw [wrap_in (by omega) (by omega)]
      omega
    rw [if_pos (by omega), wrap_next (by omega), e]
    exact ih (i + 1) d (by omega) hd k (by omega)
theorem refText_eq (s : ByteArray) (n : Int) {k : Nat} (hk : 1099511628000 ≤ k) : supercargoref01_Text.f k s n = some (if may s n = true then strD (txt s n) else strD []) := by
  unfold supercargoref01_Text.f
  rw [refMay_eq s n (by omega), Option.bind_some]
  by_cases hm : may s n = true
  · rw [if_pos hm, if_pos hm]
    have hs := may_size hm
    obtain ⟨h0, h1⟩ := may_in hm
    have h3 := dgs_le s
    have J : ∀ g : List UInt8, g.length ≤ 1 → supercargoref01_Text.j0 k (n.natAbs : Int) ((s ++ strD [32]) ++ strD g) s n = some (strD (s.data.toList ++ ([32] ++ (g ++ numT (dgs s) n.natAbs)))) := by
      intro g hg
      obtain ⟨k, rfl⟩ : ∃ j, k = j + 1 := ⟨k - 1, by omega⟩
      simp only [supercargoref01_Text.j0]
      rw [refDigits_eq s (by omega), Option.bind_some]
      have := unit_l0 (x := n.natAbs) (g := (s ++ strD [32]) ++ strD g) (by omega) (by rw [ByteArray.size_append, ByteArray.size_append, strD_size, strD_size]; simp; omega) (dgs s) 0 (dgs s) (by omega) h3 k (by omega)
      rw [Nat.pow_zero] at this
      refine Eq.trans this ?_
      congr 1
      conv => lhs; rw [← strD_self s]
      rw [strD_app, strD_app, strD_app]
      simp [strD_self]
    rw [if_pos (by omega)]
    unfold txt sgn
    by_cases hn : n < 0
    · rw [if_pos hn, if_pos hn, wrap_in (by omega) (by omega), show -n = (n.natAbs : Int) by omega, s32, s45, if_pos (by rw [ByteArray.size_append, strD_size]; simp; omega)]
      exact J [45] (by simp)
    · rw [if_neg hn, if_neg hn, s32]
      have := J [] (by simp)
      have e : (s ++ strD [32]) ++ strD [] = s ++ strD [32] := by
        apply ByteArray.ext
        rw [ByteArray.data_append]
        simp [strD]
      rw [e] at this
      rwa [show (n.natAbs : Int) = n by omega] at this
  · rw [if_neg hm, if_neg hm]; rfl
end Go.Proofs.YtggjphcikcflkaaDoor.Pure
