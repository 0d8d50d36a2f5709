/- What the program and the document cut a text into. -/
import Derived.Test.YtjmbglgchmhahaaDoorPureLine
import Derived.Test.YtjmbglgchmhahaaDoorSpl
import Derived.Test.YtjmbglgchmhahaaDoorPx11
import Derived.Test.YtjmbglgchmhahaaDoorPx12
import Derived.Test.YtjmbglgchmhahaaDoorPx13
import Derived.Lib.ParseIntBTie
import Derived.Test.YtjmbglgchmhahaaDoorPx19
namespace Go.Proofs.YtjmbglgchmhahaaDoor.Pure
open Go.RowKit Go.Proofs.YtjmbglgchmhahaaDoor.P Go.Proofs.YtjmbglgchmhahaaDoorW.PrintWords Go.Proofs.YtjmbglgchmhahaaDoorW.PrintLast Go.Proofs.YtjmbglgchmhahaaDoorW.PrintMore
open Lib (decDigits)
open Spl (spl)
def pcs (c : UInt8) (l : List UInt8) : List ByteArray := (spl c l).map strD
theorem split_eq {l : List UInt8} (h : l.length ≤ 4000000) : strings_Split.f (strD l) (⟨#[32]⟩ : ByteArray) = some (pcs 32 l) := by
  unfold strings_Split.f
  have hs : (strD l).size ≤ 4000000 := by rw [strD_size]; exact h
  rw [if_pos ⟨by omega, by decide⟩, Spl.splitB_eq, strD_list]
  rfl
theorem cut_eq {l : List UInt8} (h : l.length ≤ 4000000) : strings_Cut.f (strD l) (⟨#[10]⟩ : ByteArray) = some (strD (Lib.cut l [10]).1, strD (Lib.cut l [10]).2.1, (Lib.cut l [10]).2.2) := by
  unfold strings_Cut.f
  have hs : (strD l).size ≤ 4000000 := by rw [strD_size]; exact h
  rw [if_pos (by omega)]
  rfl
theorem extract_list (s : ByteArray) (i j : Nat) : (s.extract i j).data.toList = (s.data.toList.drop i).take (j - i) := by
  rw [ByteArray.data_extract, Array.toList_extract, List.extract_eq_take_drop]
theorem extract_strD (l : List UInt8) (i j : Nat) : (strD l).extract i j = strD ((l.drop i).take (j - i)) := by
  rw [← strD_self ((strD l).extract i j), extract_list, strD_list]
theorem bt_strD {l : List UInt8} {n : Nat} (h : n < l.length) : bt (strD l) (n : Int) = ((l[n]).toNat : Int) := by
  rw [bt_at (by rw [strD_size]; exact h)]
  rfl
/-- Between the last sign and here: nothing of the sign. -/
theorem parts_l0 (c : UInt8) (l : List UInt8) (hl : l.length ≤ 4000000) (d : Nat) : ∀ (n f : Nat) (acc : List ByteArray) (k : Nat), n + d = l.length → f ≤ n → c ∉ (l.drop f).take (n - f) → acc.length ≤ n → d + 2 ≤ k →
    supercargoref22_Parts.l0 k (strD l) (c.toNat : Int) acc (f : Int) (n : Int) = some (acc ++ pcs c (l.drop f)) := by
  induction d with
  | zero =>
    intro n f acc k hn hf hc ha hk
    obtain ⟨k, rfl⟩ : ∃ j, k = j + 2 := ⟨k - 2, by omega⟩
    have hsz : (strD l).size = l.length := strD_size l
    have hlast : (l.drop f).take (n - f) = l.drop f := List.take_of_length_le (by simp; omega)
    rw [hlast] at hc
    rw [supercargoref22_Parts.l0, hsz, if_pos (by omega), if_pos (by omega), if_pos (by omega), if_pos (by omega), if_pos (by omega), Int.toNat_natCast, Int.toNat_natCast, extract_strD, hlast, wrap_next (by omega), supercargoref22_Parts.l0, hsz, if_neg (by omega)]
    unfold pcs
    rw [Spl.spl_none hc]; rfl
  | succ d ih =>
    intro n f acc k hn hf hc ha hk
    obtain ⟨k, rfl⟩ : ∃ j, k = j + 1 := ⟨k - 1, by omega⟩
    have hsz : (strD l).size = l.length := strD_size l
    have hlt : n < l.length := by omega
    rw [supercargoref22_Parts.l0, hsz, if_pos (by omega), if_neg (by omega), if_pos (by omega), if_pos (by omega), bt_strD hlt]
    by_cases h : l[n] = c
    · have hd : l.drop f = (l.drop f).take (n - f) ++ c :: l.drop (n + 1) := by
        have e1 := (List.take_append_drop (n - f) (l.drop f)).symm
        rw [List.drop_drop, show f + (n - f) = n by omega, List.drop_eq_getElem_cons hlt, h] at e1
        exact e1
      rw [if_pos (by rw [h]), if_pos (by omega), if_pos (by omega), if_pos (by omega), Int.toNat_natCast, Int.toNat_natCast, extract_strD, wrap_next (by omega), ih (n + 1) (n + 1) _ k (by omega) (by omega) (by simp) (by simp; omega) (by omega)]
      unfold pcs
      rw [hd, Spl.spl_hit hc]
      have e2 : ((l.drop f).take (n - f) ++ c :: l.drop (n + 1)).take (n - f) = (l.drop f).take (n - f) := by
        rw [← hd]
      simp
      rw [e2]
    · rw [if_neg (by intro e; apply h; exact UInt8.toNat_inj.mp (by omega)), wrap_next (by omega)]
      refine ih (n + 1) f acc k (by omega) (by omega) ?_ (by omega) (by omega)
      rw [show n + 1 - f = (n - f) + 1 by omega, List.take_add_one, List.mem_append]
      rintro (hm | hm)
      · exact hc hm
      · rw [List.getElem?_drop, show f + (n - f) = n by omega, List.getElem?_eq_getElem hlt] at hm
        simp at hm
        exact h hm.symm
theorem parts_eq (c : UInt8) (l : List UInt8) (hl : l.length ≤ 4000000) {k : Nat} (hk : l.length + 2 ≤ k) : supercargoref22_Parts.f k (strD l) (c.toNat : Int) = some (pcs c l) := by
  have := parts_l0 c l hl l.length 0 0 [] k (by omega) (by omega) (by simp) (by simp) (by omega)
  unfold supercargoref22_Parts.f
  rw [List.nil_append, List.drop_zero] at this
  exact this
/-- What the document reads of digits. -/
def numL (l : List UInt8) : Int := if l.length < 1 ∨ 9 < l.length then -1 else if l.all Dec.isDig = true then (Dec.val 0 l : Int) else -1
def p10 : Nat → Nat
  | 0 => 1
  | n + 1 => 10 * p10 n
theorem p10_le {n : Nat} (h : n ≤ 8) : p10 n ≤ 100000000 := by
  rcases n with _ | _ | _ | _ | _ | _ | _ | _ | _ | n <;> first | (simp only [p10]; omega) | omega
theorem number_l0 (l : List UInt8) (hl : l.length ≤ 9) (d : Nat) : ∀ (n acc k : Nat), n + d = l.length → acc < p10 n → d + 1 ≤ k →
    supercargoref22_Number.l0 k (strD l) (acc : Int) (n : Int) = some (if (l.drop n).all Dec.isDig = true then (Dec.val acc (l.drop n) : Int) else -1) := by
  induction d with
  | zero =>
    intro n acc k hn ha hk
    obtain ⟨k, rfl⟩ : ∃ j, k = j + 1 := ⟨k - 1, by omega⟩
    simp only [supercargoref22_Number.l0]
    rw [strD_size, if_neg (by omega), List.drop_of_length_le (by omega)]
    rfl
  | succ d ih =>
    intro n acc k hn ha hk
    obtain ⟨k, rfl⟩ : ∃ j, k = j + 1 := ⟨k - 1, by omega⟩
    have hlt : n < l.length := by omega
    simp only [supercargoref22_Number.l0]
    rw [strD_size, if_pos (by omega), if_pos (by omega), bt_strD hlt, List.drop_eq_getElem_cons hlt, List.all_cons]
    obtain ⟨x, hx⟩ : ∃ x, l[n] = x := ⟨_, rfl⟩
    rw [hx]
    have h256 := x.toNat_lt
    by_cases h1 : (x.toNat : Int) < 48
    · have : Dec.isDig x = false := by unfold Dec.isDig; simp; omega
      rw [if_pos h1, this, Bool.false_and]; rfl
    · rw [if_neg h1]
      by_cases h2 : (x.toNat : Int) > 57
      · have : Dec.isDig x = false := by unfold Dec.isDig; simp; omega
        rw [if_pos h2, this, Bool.false_and]; rfl
      · have hd : Dec.isDig x = true := by unfold Dec.isDig; simp; omega
        have hp : p10 n ≤ 100000000 := p10_le (by omega)
        have hs : p10 (n + 1) = 10 * p10 n := rfl
        have e : wrap64 (wrap64 (10 * (acc : Int)) + ((x.toNat : Int) - 48) % 256) = ((acc * 10 + (x.toNat - 48) : Nat) : Int) := by
          rw [wrap_in (x := 10 * (acc : Int)) (by omega) (by omega), wrap_in (by omega) (by omega)]; omega
        rw [if_neg h2, e, wrap_next (by omega), ih (n + 1) _ k (by omega) (by omega) (by omega), hd, Bool.true_and]
        rfl
theorem number_eq (l : List UInt8) (hl : l.length ≤ 4000000) {k : Nat} (hk : 20 ≤ k) : supercargoref22_Number.f k (strD l) = some (numL l) := by
  obtain ⟨k, rfl⟩ : ∃ j, k = j + 1 := ⟨k - 1, by omega⟩
  unfold supercargoref22_Number.f numL
  rw [strD_size]
  by_cases h1 : l.length < 1
  · rw [if_pos (by omega), if_pos (Or.inl h1)]
    simp only [supercargoref22_Number.j0]
    rw [if_pos trivial]
  · rw [if_neg (by omega)]
    by_cases h2 : 9 < l.length
    · rw [if_pos (Or.inr h2), decide_eq_true (by omega)]
      simp only [supercargoref22_Number.j0]
      rw [if_pos trivial]
    · rw [if_neg (by omega), decide_eq_false (by omega)]
      simp only [supercargoref22_Number.j0]
      rw [if_neg Bool.false_ne_true]
      have := number_l0 l (by omega) l.length 0 0 k (by omega) (by decide) (by omega)
      rw [List.drop_zero] at this
      exact this
theorem num_day {n : Nat} (h : n ≤ 1048576) : numL (decDigits n) = (n : Int) := by
  have := day_len h
  unfold numL
  rw [if_neg (by omega), if_pos (Dec.dec_all n), Dec.val_dec]
theorem atoi_day {n : Nat} (h : n ≤ 1048576) : atoiV (decDigits n) = (n : Int) := by
  have hne : decDigits n ≠ [] := by intro e; have := day_len h; rw [e] at this; simp at this
  have := Dec.parseInt_digits hne (Dec.dec_all n) (by rw [Dec.val_dec]; omega)
  rw [Lib.parseIntB_64, Dec.val_dec] at this
  unfold atoiV
  rw [this]
end Go.Proofs.YtjmbglgchmhahaaDoor.Pure
