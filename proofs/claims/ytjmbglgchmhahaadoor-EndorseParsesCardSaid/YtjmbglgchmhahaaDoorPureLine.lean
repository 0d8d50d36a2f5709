/- An endorsement's line and a row's text, in plain Lean: the program's and the document's are alike. -/
import Derived.Test.YtjmbglgchmhahaaDoorPureRef
import Derived.Test.YtjmbglgchmhahaaDoorDec
import Derived.Test.YtjmbglgchmhahaaDoorPx7
import Derived.Test.YtjmbglgchmhahaaDoorPx8
import Derived.Test.YtjmbglgchmhahaaDoorPx10
namespace Go.Proofs.YtjmbglgchmhahaaDoor.Pure
open Go.RowKit Go.Proofs.YtjmbglgchmhahaaDoor.P Go.Proofs.YtjmbglgchmhahaaDoorW.PrintWords Go.Proofs.YtjmbglgchmhahaaDoorW.PrintLast Go.Proofs.YtjmbglgchmhahaaDoorW.PrintMore
open Lib (decDigits)
theorem wrap_in {x : Int} (h0 : -9223372036854775808 ≤ x) (h1 : x ≤ 9223372036854775807) : wrap64 x = x := by unfold wrap64; omega
def strD (l : List UInt8) : ByteArray := ⟨l.toArray⟩
theorem strD_size (l : List UInt8) : (strD l).size = l.length := by
  show l.toArray.size = l.length
  simp
theorem strD_list (l : List UInt8) : (strD l).data.toList = l := rfl
theorem strD_toList (l : List UInt8) : (strD l).toList = l := by rw [ByteArray.toList_eq, strD_list]
theorem strD_self (s : ByteArray) : strD s.data.toList = s := by cases s; rfl
theorem strD_app (a b : List UInt8) : strD a ++ strD b = strD (a ++ b) := by
  apply ByteArray.ext
  rw [ByteArray.data_append]
  simp [strD]
theorem strD_inj {a b : List UInt8} (h : strD a = strD b) : a = b := by rw [← strD_list a, h, strD_list]
theorem size_list (s : ByteArray) : s.size = s.data.toList.length := by simp
theorem nm_len {s : ByteArray} (h : nm s = true) : 1 ≤ s.data.toList.length ∧ s.data.toList.length ≤ 16 ∧ ∀ c ∈ s.data.toList, MarkName.okI (c.toNat : Int) = true := by
  unfold nm MarkName.nameB MarkName.allB at h
  rw [Bool.and_eq_true, Bool.and_eq_true, decide_eq_true_eq, decide_eq_true_eq, List.all_eq_true, size_list] at h
  exact ⟨h.1, h.2.1, h.2.2⟩
def dayL (x : S34) : List UInt8 := decDigits x.f3.toNat
def wordL (k : Int) : List UInt8 := if k = 0 then [111, 114, 100, 101, 114] else if k = 1 then [98, 108, 97, 110, 107] else [111, 110, 108, 121]
/-- The line of a right one. -/
def lineL (x : S34) : List UInt8 :=
  if x.f2 = 1 then wordL x.f2 ++ 32 :: (x.f0.data.toList ++ 32 :: dayL x) else wordL x.f2 ++ 32 :: (x.f0.data.toList ++ 32 :: (x.f1.data.toList ++ 32 :: dayL x))
theorem day_len {n : Nat} (h : n ≤ 1048576) : 1 ≤ (decDigits n).length ∧ (decDigits n).length ≤ 7 := by
  constructor
  · rw [Lib.decDigits]; split <;> simp
  · exact Dec.len_le (d := 6) (by omega)
theorem line_len {x : S34} (h : right x = true) : (lineL x).length ≤ 60 := by
  obtain ⟨hk, h0, h1, n0, _, n1⟩ := right_kind h
  have d := day_len (n := x.f3.toNat) (by omega)
  have l0 := nm_len n0
  unfold lineL wordL dayL
  by_cases k1 : x.f2 = 1
  · rw [if_pos k1, if_neg (by omega), if_pos k1]; simp only [List.length_append, List.length_cons, List.length_nil]; omega
  · rw [if_neg k1]
    have l1 := nm_len (n1 k1).1
    by_cases k0 : x.f2 = 0
    · rw [if_pos k0]; simp only [List.length_append, List.length_cons, List.length_nil]; omega
    · rw [if_neg k0, if_neg k1]; simp only [List.length_append, List.length_cons, List.length_nil]; omega
theorem joined_eq (xs : List ByteArray) (h : (Lib.join (xs.map (·.data.toList)) [32]).length ≤ 100) : Line.joined xs = some (strD (Lib.join (xs.map (·.data.toList)) [32])) := by
  unfold Line.joined
  rw [if_pos (by omega)]; rfl
theorem line_eq {x : S34} (h : right x = true) : endorse_line.f x.f0 x.f1 x.f2 x.f3 = some (strD (lineL x)) := by
  obtain ⟨hk, h0, h1, n0, _, n1⟩ := right_kind h
  have hl := line_len h
  unfold endorse_line.f strconv_Itoa.f
  rw [if_pos (by omega), Option.bind_some]
  have hi : Lib.itoa x.f3 = decDigits x.f3.toNat := by unfold Lib.itoa; rw [if_neg (by omega)]
  rw [hi]
  unfold lineOf
  by_cases k0 : x.f2 = 0
  · have e : Lib.join ([(⟨#[111, 114, 100, 101, 114]⟩ : ByteArray), x.f0, x.f1, ⟨(decDigits x.f3.toNat).toArray⟩].map (·.data.toList)) [32] = lineL x := by
      unfold lineL wordL dayL
      rw [if_neg (by omega), if_pos k0]
      simp [Lib.join_cons, Lib.joinTail]
    rw [if_pos k0, joined_eq _ (by rw [e]; omega), e]
  · rw [if_neg k0]
    by_cases k1 : x.f2 = 1
    · have e : Lib.join ([(⟨#[98, 108, 97, 110, 107]⟩ : ByteArray), x.f0, ⟨(decDigits x.f3.toNat).toArray⟩].map (·.data.toList)) [32] = lineL x := by
        unfold lineL wordL dayL
        rw [if_pos k1, if_neg k0, if_pos k1]
        simp [Lib.join_cons, Lib.joinTail]
      rw [if_pos k1, joined_eq _ (by rw [e]; omega), e]
    · have e : Lib.join ([(⟨#[111, 110, 108, 121]⟩ : ByteArray), x.f0, x.f1, ⟨(decDigits x.f3.toNat).toArray⟩].map (·.data.toList)) [32] = lineL x := by
        unfold lineL wordL dayL
        rw [if_neg k1, if_neg k0, if_neg k1]
        simp [Lib.join_cons, Lib.joinTail]
      rw [if_neg k1, if_pos (by omega), joined_eq _ (by rw [e]; omega), e]
theorem byte_of (n : Nat) : strOfNums [(wrap64 (48 + (Int.tmod (n : Int) 10))) % 256] = strD [Dec.dg n] := by
  have e : (wrap64 (48 + (Int.tmod (n : Int) 10))) % 256 = ((48 + n % 10 : Nat) : Int) := by
    have : Int.tmod (n : Int) 10 = ((n % 10 : Nat) : Int) := rfl
    rw [this, wrap_in (by omega) (by omega)]
    omega
  rw [e]
  rfl
theorem byte_of1 (n : Nat) (h : n < 10) : strOfNums [(wrap64 (48 + (n : Int))) % 256] = strD [Dec.dg n] := by
  have e : (wrap64 (48 + (n : Int))) % 256 = ((48 + n % 10 : Nat) : Int) := by
    rw [wrap_in (by omega) (by omega)]
    omega
  rw [e]
  rfl
theorem refDigits_l0 (n : Nat) : ∀ (acc : List UInt8), n ≤ 2000000 → acc.length + n ≤ 9000000 → ∀ k, n + 1 ≤ k → supercargoref22_Digits.l0 k (n : Int) (strD acc) = some (strD (decDigits n ++ acc)) := by
  induction n using Nat.strongRecOn with
  | ind n ih =>
    intro acc hn ha k hk
    obtain ⟨k, rfl⟩ : ∃ j, k = j + 1 := ⟨k - 1, by omega⟩
    simp only [supercargoref22_Digits.l0, Option.bind_some]
    by_cases h : (n : Int) > 9
    · have ht : wrap64 (Int.tdiv (n : Int) 10) = ((n / 10 : Nat) : Int) := by
        have : Int.tdiv (n : Int) 10 = ((n / 10 : Nat) : Int) := rfl
        rw [this, wrap_in (by omega) (by omega)]
      rw [if_pos h, byte_of, ht, strD_app, if_pos (by rw [strD_size, strD_size]; simp; omega), ih (n / 10) (by omega) _ (by omega) (by simp; omega) k (by omega), Dec.dec_big (n := n) (by omega)]
      simp
    · rw [if_neg h, byte_of1 n (by omega), strD_app, if_pos (by rw [strD_size, strD_size]; simp; omega), Dec.dec_small (n := n) (by omega)]
theorem refDigits_eq {d : Int} (h0 : 0 ≤ d) (h1 : d ≤ 1048576) {k : Nat} (hk : 1048600 ≤ k) : supercargoref22_Digits.f k d = some (strD (decDigits d.toNat)) := by
  have := refDigits_l0 d.toNat [] (by omega) (by simp; omega) k (by omega)
  unfold supercargoref22_Digits.f
  rw [Int.toNat_of_nonneg h0, List.append_nil] at this
  exact this
theorem refLine_eq {x : S34} (h : right x = true) {k : Nat} (hk : 1048600 ≤ k) : supercargoref22_Line.f k x.f0 x.f1 x.f2 x.f3 = some (strD (lineL x ++ [10])) := by
  obtain ⟨hkind, h0, h1, n0, _, n1⟩ := right_kind h
  have hd := refDigits_eq h0 h1 hk
  have dl := day_len (n := x.f3.toNat) (by omega)
  have l0 := nm_len n0
  have e0 := strD_self x.f0
  have e1 := strD_self x.f1
  have el : lineL x = if x.f2 = 1 then wordL x.f2 ++ 32 :: (x.f0.data.toList ++ 32 :: dayL x) else wordL x.f2 ++ 32 :: (x.f0.data.toList ++ 32 :: (x.f1.data.toList ++ 32 :: dayL x)) := rfl
  unfold dayL at el
  obtain ⟨a, ha⟩ : ∃ a, x.f0.data.toList = a := ⟨_, rfl⟩
  obtain ⟨b, hb⟩ : ∃ a, x.f1.data.toList = a := ⟨_, rfl⟩
  obtain ⟨c, hc⟩ : ∃ c, decDigits x.f3.toNat = c := ⟨_, rfl⟩
  rw [hc] at hd dl el
  rw [ha] at l0 e0 el
  rw [hb] at e1 el
  unfold supercargoref22_Line.f
  rw [hd, el, ← e0, ← e1]
  rw [show (⟨#[98, 108, 97, 110, 107, 32]⟩ : ByteArray) = strD [98, 108, 97, 110, 107, 32] from rfl, show (⟨#[111, 110, 108, 121, 32]⟩ : ByteArray) = strD [111, 110, 108, 121, 32] from rfl, show (⟨#[111, 114, 100, 101, 114, 32]⟩ : ByteArray) = strD [111, 114, 100, 101, 114, 32] from rfl, show (⟨#[32]⟩ : ByteArray) = strD [32] from rfl, show (⟨#[10]⟩ : ByteArray) = strD [10] from rfl]
  simp only [Option.bind_some, strD_app, strD_size]
  by_cases k1 : x.f2 = 1
  · rw [if_pos k1, if_pos (by omega), if_pos (by simp; omega), if_pos (by simp; omega), if_pos (by simp; omega), if_pos k1]
    unfold wordL
    rw [if_neg (by omega), if_pos k1]
    simp
  · have l1 := nm_len (n1 k1).1
    rw [hb] at l1
    rw [if_neg k1, if_neg k1]
    by_cases k2 : x.f2 = 2
    · rw [if_pos k2, if_pos (by omega), if_pos (by simp; omega), if_pos (by simp; omega), if_pos (by simp; omega), if_pos (by simp; omega), if_pos (by simp; omega)]
      unfold wordL
      rw [if_neg (by omega), if_neg k1]
      simp
    · rw [if_neg k2, if_pos (by omega), if_pos (by simp; omega), if_pos (by simp; omega), if_pos (by simp; omega), if_pos (by simp; omega), if_pos (by simp; omega)]
      unfold wordL
      rw [if_pos (by omega)]
      simp
/-- The text of a row that may have one. -/
def rowL : List S34 → List UInt8
  | [] => []
  | x :: r => lineL x ++ 10 :: rowL r
def textL (l : List S34) : List UInt8 := if l.all right = true then rowL l else []
theorem text_l0 (l : List S34) (hl : l.length ≤ 1000000) (d : Nat) : ∀ (n : Nat) (acc : List UInt8) (k : Nat), n + d = l.length → acc.length ≤ 100 * n → d + 20 ≤ k →
    endorse_Text.l0 k (strD acc) l (l.length : Int) (n : Int) = some (strD (if (l.drop n).all right = true then acc ++ rowL (l.drop n) else [])) := by
  induction d with
  | zero =>
    intro n acc k hn ha hk
    obtain ⟨k, rfl⟩ : ∃ j, k = j + 1 := ⟨k - 1, by omega⟩
    simp only [endorse_Text.l0]
    rw [if_neg (by omega), List.drop_of_length_le (by omega)]
    simp [rowL]
  | succ d ih =>
    intro n acc k hn ha hk
    obtain ⟨k, rfl⟩ : ∃ j, k = j + 1 := ⟨k - 1, by omega⟩
    have hlt : n < l.length := by omega
    simp only [endorse_Text.l0]
    rw [if_pos (by omega), if_pos (by omega), if_pos (by omega), rd_at hlt]
    obtain ⟨j, hj⟩ : ∃ j, k = j + 3 := ⟨k - 3, by omega⟩
    have hr : endorse_right.f k l[n].f0 l[n].f1 l[n].f2 l[n].f3 = some (right l[n]) := by rw [hj]; exact right_eq j _ _ _ _
    rw [hr, Option.bind_some, List.drop_eq_getElem_cons hlt, List.all_cons]
    by_cases h : right l[n] = true
    · have hll := line_len h
      rw [if_pos h, line_eq h, Option.bind_some, show (⟨#[10]⟩ : ByteArray) = strD [10] from rfl, strD_app, strD_app, if_pos (by rw [strD_size]; omega), if_pos (by rw [strD_size, strD_size]; simp; omega), wrap_next (by omega), ih (n + 1) _ k (by omega) (by simp; omega) (by omega), h, Bool.true_and]
      simp [rowL]
    · rw [if_neg h, Bool.eq_false_iff.mpr h, Bool.false_and]; rfl
theorem text_eq (l : List S34) (hl : l.length ≤ 1000000) {k : Nat} (hk : l.length + 20 ≤ k) : endorse_Text.f k l = some (strD (textL l)) := by
  have := text_l0 l hl l.length 0 [] k (by omega) (by simp) (by omega)
  rw [List.drop_zero, List.nil_append] at this
  exact this
theorem refText_l0 (l : List S34) (hl : l.length ≤ 1000000) (hs : ∀ x ∈ l, Small x) (d : Nat) : ∀ (n : Nat) (acc : List UInt8) (k : Nat), n + d = l.length → acc.length ≤ 100 * n → d + 1048700 ≤ k →
    supercargoref22_Text.l0 k l (strD acc) (n : Int) = some (strD (if (l.drop n).all right = true then acc ++ rowL (l.drop n) else [])) := by
  induction d with
  | zero =>
    intro n acc k hn ha hk
    obtain ⟨k, rfl⟩ : ∃ j, k = j + 1 := ⟨k - 1, by omega⟩
    simp only [supercargoref22_Text.l0]
    rw [if_neg (by omega), List.drop_of_length_le (by omega)]
    simp [rowL]
  | succ d ih =>
    intro n acc k hn ha hk
    obtain ⟨k, rfl⟩ : ∃ j, k = j + 1 := ⟨k - 1, by omega⟩
    have hlt : n < l.length := by omega
    simp only [supercargoref22_Text.l0]
    rw [if_pos (by omega), if_pos (by omega), rd_at hlt, refRight_eq _ (hs _ (List.getElem_mem hlt)) k (by omega), Option.bind_some, List.drop_eq_getElem_cons hlt, List.all_cons]
    by_cases h : right l[n] = true
    · have hll := line_len h
      rw [if_pos h, refLine_eq h (by omega), Option.bind_some, strD_app, if_pos (by rw [strD_size, strD_size]; simp; omega), wrap_next (by omega), ih (n + 1) _ k (by omega) (by simp; omega) (by omega), h, Bool.true_and]
      simp [rowL]
    · rw [if_neg h, Bool.eq_false_iff.mpr h, Bool.false_and]; rfl
theorem refText_eq (l : List S34) (hl : l.length ≤ 1000000) (hs : ∀ x ∈ l, Small x) {k : Nat} (hk : l.length + 1048700 ≤ k) : supercargoref22_Text.f k l = some (strD (textL l)) := by
  have := refText_l0 l hl hs l.length 0 [] k (by omega) (by simp) (by omega)
  rw [List.drop_zero, List.nil_append] at this
  exact this
end Go.Proofs.YtjmbglgchmhahaaDoor.Pure
