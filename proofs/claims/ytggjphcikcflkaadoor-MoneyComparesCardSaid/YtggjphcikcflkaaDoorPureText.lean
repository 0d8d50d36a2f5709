/- The text of money, as the program writes it, in plain Lean. -/
import Derived.Test.YtggjphcikcflkaaDoorPureBase
import Derived.Test.YtggjphcikcflkaaDoorDec
import Derived.Test.YtggjphcikcflkaaDoorPx12
import Derived.Lib.ItoaMem
namespace Go.Proofs.YtggjphcikcflkaaDoor.Pure
open Go.RowKit Go.Proofs.YtggjphcikcflkaaDoor.P Go.Proofs.YtggjphcikcflkaaDoorW.PrintWords Go.Proofs.YtggjphcikcflkaaDoorW.PrintLast Go.Proofs.YtggjphcikcflkaaDoorW.PrintMore
open Lib (decDigits)
/-- How many digits stand behind the point. -/
def dgs (s : ByteArray) : Nat :=
  if s.data.toList = [74, 80, 89] ∨ s.data.toList = [75, 82, 87] then 0 else if s.data.toList = [66, 72, 68] ∨ s.data.toList = [75, 87, 68] ∨ s.data.toList = [84, 78, 68] then 3 else 2
theorem dgs_le (s : ByteArray) : dgs s ≤ 3 := by
  unfold dgs
  split
  · omega
  · split <;> omega
theorem dgs_tail (l : List UInt8) : (if l = ([66, 72, 68] : List UInt8) then (some 3) else (if l = ([75, 87, 68] : List UInt8) then (some 3) else (if l = ([84, 78, 68] : List UInt8) then (some (3 : Int)) else (some 2)))) =
    some (((if l = [66, 72, 68] ∨ l = [75, 87, 68] ∨ l = [84, 78, 68] then 3 else 2 : Nat)) : Int) := by
  by_cases h1 : l = [66, 72, 68]
  · rw [if_pos h1, if_pos (.inl h1)]; rfl
  · rw [if_neg h1]
    by_cases h2 : l = [75, 87, 68]
    · rw [if_pos h2, if_pos (.inr (.inl h2))]; rfl
    · rw [if_neg h2]
      by_cases h3 : l = [84, 78, 68]
      · rw [if_pos h3, if_pos (.inr (.inr h3))]; rfl
      · rw [if_neg h3, if_neg (by rintro (h | h | h) <;> contradiction)]; rfl
theorem digits_eq (s : ByteArray) {k : Nat} (hk : 1 ≤ k) : money_digits.f k s = some (dgs s : Int) := by
  obtain ⟨k, rfl⟩ : ∃ j, k = j + 1 := ⟨k - 1, by omega⟩
  unfold money_digits.f dgs
  simp only [money_digits.j0, ByteArray.toList_eq, dgs_tail]
  generalize s.data.toList = l
  by_cases h1 : l = [74, 80, 89]
  · subst h1
    rfl
  · rw [if_neg h1]
    by_cases h2 : l = [75, 82, 87]
    · subst h2
      rfl
    · have hb : (l == ([75, 82, 87] : List UInt8)) = false := by simpa using h2
      rw [hb, if_neg (by simp), if_neg (show ¬ (l = [74, 80, 89] ∨ l = [75, 82, 87]) from fun h => h.elim h1 h2)]
/-- Whole units, a point, just so many digits. -/
def numT (d n : Nat) : List UInt8 := if d = 0 then decDigits n else decDigits (n / 10 ^ d) ++ ([46] ++ Dec.pad d n)
def sgn (n : Int) : List UInt8 := if n < 0 then [45] else []
def txt (s : ByteArray) (n : Int) : List UInt8 := s.data.toList ++ ([32] ++ (sgn n ++ numT (dgs s) n.natAbs))
theorem sgn_len (n : Int) : (sgn n).length ≤ 1 := by
  unfold sgn
  split <;> simp
theorem dec_len {n : Nat} (h : n ≤ 1099511627776) : (decDigits n).length ≤ 13 := Dec.len_le (d := 12) (by omega)
theorem itoa_nat (n : Nat) : Lib.itoa (n : Int) = decDigits n := Lib.itoa_nonneg n
theorem format_eq {n : Nat} (h : n ≤ 1099511627776) : strconv_FormatInt.f (n : Int) 10 = some (strD (decDigits n)) := by
  unfold strconv_FormatInt.f
  rw [if_pos ⟨rfl, by omega, by omega⟩, itoa_nat]; rfl
theorem repeat_eq {c : Nat} (h : c ≤ 4) : strings_Repeat.f ⟨#[48]⟩ (c : Int) = some (strD (Dec.zeros c)) := by
  unfold strings_Repeat.f
  rw [Int.toNat_natCast, if_pos ⟨by omega, by show 1 * c ≤ _; omega⟩]
  have : ∀ c, Lib.repeatL ([48] : List UInt8) c = Dec.zeros c := by
    intro c
    induction c with
    | zero => rfl
    | succ c ih => unfold Lib.repeatL; rw [ih]; rfl
  show some (strD (Lib.repeatL [48] c)) = _
  rw [this]
theorem cut_place {A B : List UInt8} {d : Nat} (hA : A.length ≤ 20) (hB : B.length = d) : wrap64 (((strD (A ++ B)).size : Int) - (d : Int)) = (A.length : Int) := by
  rw [strD_size, List.length_append, wrap_in (by omega) (by omega)]
  omega
theorem cut_left (A B : List UInt8) : (strD (A ++ B)).extract 0 ((A.length : Nat) : Int).toNat = strD A := by
  rw [Int.toNat_natCast, extract_strD]
  simp
theorem cut_right (A B : List UInt8) : (strD (A ++ B)).extract ((A.length : Nat) : Int).toNat (strD (A ++ B)).size = strD B := by
  rw [Int.toNat_natCast, extract_strD, strD_size]
  simp
theorem s32 : (⟨#[32]⟩ : ByteArray) = strD [32] := rfl
theorem s46 : (⟨#[46]⟩ : ByteArray) = strD [46] := rfl
theorem s45 : (⟨#[45]⟩ : ByteArray) = strD [45] := rfl
theorem s0 : (⟨#[]⟩ : ByteArray) = strD [] := rfl
theorem s48 : (⟨#[48]⟩ : ByteArray) = strD [48] := rfl
set_option maxRecDepth 100000 in
theorem text_j0 {C g : List UInt8} (hC : C.length = 3) (hg : g.length ≤ 1) {n : Nat} (hn : n ≤ 1099511627776) (x : Int) {k : Nat} (hk : 2 ≤ k) :
    money_Text.j0 k (strD g) (n : Int) (strD C) x = some (strD (C ++ ([32] ++ (g ++ numT (dgs (strD C)) n)))) := by
  obtain ⟨k, rfl⟩ : ∃ j, k = j + 1 := ⟨k - 1, by omega⟩
  simp only [money_Text.j0]
  rw [digits_eq _ (by omega), Option.bind_some, format_eq hn, Option.bind_some]
  have hl := dec_len hn
  have hd3 := dgs_le (strD C)
  generalize dgs (strD C) = d at hd3
  unfold numT
  by_cases h0 : d = 0
  · subst h0
    rw [if_pos (show ((0 : Nat) : Int) = 0 from rfl), if_pos (show (0 : Nat) = 0 from rfl), s32, if_pos (by rw [strD_size]; omega), strD_app, if_pos (by rw [strD_size, strD_size, List.length_append]; simp; omega), strD_app, if_pos (by rw [strD_size, strD_size, List.length_append, List.length_append]; simp; omega), strD_app]
    simp
  · rw [if_neg (by omega), if_neg h0]
    have e1 : wrap64 (wrap64 ((d : Int) + 1) - ((strD (decDigits n)).size : Int)) = (d : Int) + 1 - ((decDigits n).length : Int) := by
      rw [strD_size, wrap_in (x := (d : Int) + 1) (by omega) (by omega), wrap_in (by omega) (by omega)]
    rw [e1]
    have tail : ∀ A : List UInt8, A.length ≤ 14 → ∀ r : ByteArray, r = strD (A ++ Dec.pad d n) →
        (if 0 ≤ wrap64 ((r.size : Int) - (d : Int)) then (if wrap64 ((r.size : Int) - (d : Int)) ≤ (r.size : Int) then (if ((strD C ++ strD [32]) ++ strD g).size + (r.extract 0 (wrap64 ((r.size : Int) - (d : Int))).toNat).size ≤ 9223372036854775807 then (if (((strD C ++ strD [32]) ++ strD g) ++ (r.extract 0 (wrap64 ((r.size : Int) - (d : Int))).toNat)).size + 1 ≤ 9223372036854775807 then (if ((((strD C ++ strD [32]) ++ strD g) ++ (r.extract 0 (wrap64 ((r.size : Int) - (d : Int))).toNat)) ++ strD [46]).size + (r.extract (wrap64 ((r.size : Int) - (d : Int))).toNat r.size).size ≤ 9223372036854775807 then (some (((((strD C ++ strD [32]) ++ strD g) ++ (r.extract 0 (wrap64 ((r.size : Int) - (d : Int))).toNat)) ++ strD [46]) ++ (r.extract (wrap64 ((r.size : Int) - (d : Int))).toNat r.size))) else none) else none) else none) else none) else none) = some (strD (C ++ ([32] ++ (g ++ (A ++ ([46] ++ Dec.pad d n)))))) := by
      intro A hA r hr
      subst hr
      have hp := Dec.pad_length d n
      rw [cut_place (by omega) hp, cut_left, cut_right]
      rw [if_pos (by omega), if_pos (by rw [strD_size, List.length_append]; omega), strD_app, strD_app, if_pos (by rw [strD_size, strD_size, List.length_append, List.length_append]; simp; omega), strD_app, if_pos (by rw [strD_size, List.length_append, List.length_append, List.length_append]; simp; omega), strD_app, if_pos (by rw [strD_size, strD_size, List.length_append, List.length_append, List.length_append, List.length_append]; simp; omega), strD_app]
      simp
    by_cases hlack : (d : Int) + 1 - ((decDigits n).length : Int) > 0
    · rw [if_pos hlack]
      have hlt : n < 10 ^ d := by
        rcases Nat.lt_or_ge n (10 ^ d) with h | h
        · exact h
        · have := Dec.len_gt h
          omega
      have e2 : (d : Int) + 1 - ((decDigits n).length : Int) = ((d + 1 - (decDigits n).length : Nat) : Int) := by omega
      have hz := Dec.zeros_dec (d := d) (n := n) (by rw [Nat.pow_succ]; omega)
      have hzl : (Dec.zeros (d + 1 - (decDigits n).length)).length = d + 1 - (decDigits n).length := by unfold Dec.zeros; simp
      have hq : n / 10 ^ d = 0 := Nat.div_eq_of_lt hlt
      have hsp : Dec.pad (d + 1) n = decDigits (n / 10 ^ d) ++ Dec.pad d n := by
        rw [Nat.add_comm d 1, Dec.pad_add d 1 n, hq, Dec.dec_small (by omega)]
        rfl
      rw [e2, repeat_eq (by omega), Option.bind_some, if_pos (by rw [strD_size, strD_size, hzl]; omega), s32, if_pos (by rw [strD_size]; omega), if_pos (by rw [strD_app, strD_size, strD_size, List.length_append]; simp; omega)]
      exact tail (decDigits (n / 10 ^ d)) (by rw [hq]; exact Nat.le_trans (dec_len (by omega)) (by omega)) _ (by rw [strD_app, hz, hsp])
    · rw [if_neg hlack]
      have hge : 10 ^ d ≤ n := by
        rcases Nat.lt_or_ge n (10 ^ d) with h | h
        · exfalso
          obtain ⟨e, rfl⟩ : ∃ e, d = e + 1 := ⟨d - 1, by omega⟩
          have := Dec.len_le (d := e) h
          omega
        · exact h
      rw [s32, if_pos (by rw [strD_size]; omega), if_pos (by rw [strD_app, strD_size, strD_size, List.length_append]; simp; omega)]
      exact tail (decDigits (n / 10 ^ d)) (Nat.le_trans (dec_len (Nat.le_trans (Nat.div_le_self _ _) hn)) (by omega)) _ (by rw [Dec.dec_split' hge])
theorem Text_eq (s : ByteArray) (n : Int) {k : Nat} (hk : 2 ≤ k) : money_Text.f k s n = some (if may s n = true then strD (txt s n) else strD []) := by
  unfold money_Text.f
  rw [may_eq, Option.bind_some]
  by_cases hm : may s n = true
  · rw [if_pos hm, if_pos hm]
    have hs := may_size hm
    rw [size_list] at hs
    obtain ⟨h0, h1⟩ := may_in hm
    have J := fun (g : List UInt8) (hg : g.length ≤ 1) => text_j0 (C := s.data.toList) hs hg (n := n.natAbs) (by omega) n hk
    rw [strD_self] at J
    unfold txt sgn
    by_cases hn : n < 0
    · rw [if_pos hn, if_pos hn, wrap_in (by omega) (by omega), show -n = (n.natAbs : Int) by omega, s45]
      exact J [45] (by simp)
    · rw [if_neg hn, if_neg hn, s0]
      have := J [] (by simp)
      rwa [show (n.natAbs : Int) = n by omega] at this
  · rw [if_neg hm, if_neg hm]; rfl
end Go.Proofs.YtggjphcikcflkaaDoor.Pure
