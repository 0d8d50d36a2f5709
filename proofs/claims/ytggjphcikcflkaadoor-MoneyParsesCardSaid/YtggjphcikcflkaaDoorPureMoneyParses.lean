/- The law MoneyParses in plain Lean: any text is money's as the document says, or there is an error of form. -/
import Derived.Test.YtggjphcikcflkaaDoorPureRefText
import Derived.Test.YtggjphcikcflkaaDoorPx25
namespace Go.Proofs.YtggjphcikcflkaaDoor.Pure
open Go.RowKit Go.Proofs.YtggjphcikcflkaaDoor.P Go.Proofs.YtggjphcikcflkaaDoorW.PrintWords Go.Proofs.YtggjphcikcflkaaDoorW.PrintLast Go.Proofs.YtggjphcikcflkaaDoorW.PrintMore
open Lib (decDigits)
/-- What the reference does with the number that it has gathered. -/
def last (k : Nat) (s c : ByteArray) (r : Int) : Option (ByteArray × Int × Bool) :=
  if 4 < (s.size : Int) then (if (bt s 4) = 45 then ((supercargoref01_Text.f k c (wrap64 (-r))).bind fun t => (if t.toList = s.toList then (some (c, wrap64 (-r), true)) else (some ((⟨#[]⟩ : ByteArray), 0, false)))) else ((supercargoref01_Text.f k c r).bind fun t => (if t.toList = s.toList then (some (c, r, true)) else (some ((⟨#[]⟩ : ByteArray), 0, false))))) else none
/-- The number gathered of a row of bytes. -/
def gather : Int → List UInt8 → Int
  | acc, [] => acc
  | acc, c :: r => if 48 ≤ c.toNat ∧ c.toNat ≤ 57 then gather (wrap64 (wrap64 (wrap64 (10 * acc) + wrap64 (c.toNat : Int)) - 48)) r else gather acc r
theorem gather_cons (acc : Int) (c : UInt8) (r : List UInt8) : gather acc (c :: r) = if 48 ≤ c.toNat ∧ c.toNat ≤ 57 then gather (wrap64 (wrap64 (wrap64 (10 * acc) + wrap64 (c.toNat : Int)) - 48)) r else gather acc r := rfl
theorem parse_l0 (s c : ByteArray) (d : Nat) : ∀ (i : Nat) (acc : Int), i + d = s.size → s.size ≤ 100 → ∀ k, d + 1 ≤ k → ∃ k', k' + d + 1 = k ∧ supercargoref01_Parse.l0 k s (i : Int) c acc = last k' s c (gather acc (s.data.toList.drop i)) := by
  induction d with
  | zero =>
    intro i acc hi hs k hk
    obtain ⟨k, rfl⟩ : ∃ j, k = j + 1 := ⟨k - 1, by omega⟩
    refine ⟨k, rfl, ?_⟩
    simp only [supercargoref01_Parse.l0]
    rw [if_neg (by omega), List.drop_of_length_le (by rw [← size_list]; omega)]
    rfl
  | succ d ih =>
    intro i acc hi hs k hk
    obtain ⟨k, rfl⟩ : ∃ j, k = j + 1 := ⟨k - 1, by omega⟩
    have hlt : i < s.data.toList.length := by rw [← size_list]; omega
    simp only [supercargoref01_Parse.l0]
    rw [if_pos (by omega), if_pos (by omega), bt_nat s i hlt, List.drop_eq_getElem_cons hlt, wrap_next (by omega)]
    generalize s.data.toList[i] = b
    unfold gather
    by_cases h1 : 48 ≤ b.toNat ∧ b.toNat ≤ 57
    · rw [if_pos (by omega), if_pos (by omega), if_pos h1]
      obtain ⟨k', e, h⟩ := ih (i + 1) (wrap64 (wrap64 (wrap64 (10 * acc) + wrap64 (b.toNat : Int)) - 48)) (by omega) hs k (by omega)
      exact ⟨k', by omega, h⟩
    · rw [if_neg h1]
      obtain ⟨k', e, h⟩ := ih (i + 1) acc (by omega) hs k (by omega)
      refine ⟨k', by omega, ?_⟩
      by_cases h2 : (b.toNat : Int) ≥ 48
      · rw [if_pos h2, if_neg (by omega)]; exact h
      · rw [if_neg h2]; exact h
theorem gather_val : ∀ (l : List UInt8) (acc : Nat), l.all Dec.isDig = true → Dec.val acc l ≤ 900000000000000000 → gather (acc : Int) l = (Dec.val acc l : Int)
  | [], _, _, _ => rfl
  | c :: r, acc, h, hb => by
    rw [List.all_cons, Bool.and_eq_true] at h
    have h1 := h.1
    unfold Dec.isDig at h1
    rw [Bool.and_eq_true, decide_eq_true_eq, decide_eq_true_eq] at h1
    have hm := Dec.val_mono r (acc * 10 + (c.toNat - 48))
    have hb' : Dec.val (acc * 10 + (c.toNat - 48)) r ≤ 900000000000000000 := hb
    unfold gather
    rw [if_pos h1, wrap_in (x := 10 * (acc : Int)) (by omega) (by omega), wrap_in (x := (c.toNat : Int)) (by omega) (by omega), wrap_in (x := 10 * (acc : Int) + (c.toNat : Int)) (by omega) (by omega), wrap_in (by omega) (by omega)]
    have e : 10 * (acc : Int) + (c.toNat : Int) - 48 = ((acc * 10 + (c.toNat - 48) : Nat) : Int) := by omega
    rw [e, gather_val r _ h.2 hb]
    rfl
theorem gather_app : ∀ (l r : List UInt8) (acc : Int), gather acc (l ++ r) = gather (gather acc l) r
  | [], _, _ => rfl
  | c :: l, r, acc => by
    rw [List.cons_append, gather_cons, gather_cons]
    split
    · exact gather_app l r _
    · exact gather_app l r _
theorem gather_sgn (n : Int) (acc : Int) : gather acc (sgn n) = acc := by
  unfold sgn
  split
  · rfl
  · rfl
theorem gather_num {d n : Nat} (hn : n ≤ 1099511627776) : gather 0 (numT d n) = (n : Int) := by
  unfold numT
  by_cases h0 : d = 0
  · rw [if_pos h0]
    have := gather_val (decDigits n) 0 (Dec.dec_all n) (by rw [Dec.val_dec]; omega)
    rw [Dec.val_dec] at this
    exact this
  · rw [if_neg h0, gather_app, gather_app]
    have hq := Nat.div_le_self n (10 ^ d)
    have h1 := gather_val (decDigits (n / 10 ^ d)) 0 (Dec.dec_all _) (by rw [Dec.val_dec]; omega)
    rw [Dec.val_dec] at h1
    have hv : Dec.val (n / 10 ^ d) (Dec.pad d n) = n := by
      rw [Dec.val_pad, Nat.mul_comm]; exact Nat.div_add_mod n (10 ^ d)
    have h2 := gather_val (Dec.pad d n) (n / 10 ^ d) (Dec.pad_all d n) (by rw [hv]; omega)
    rw [hv] at h2
    rw [show gather 0 (decDigits (n / 10 ^ d)) = _ from h1]
    exact h2
theorem refParse_big {s : ByteArray} (h5 : 5 ≤ s.size) (h24 : s.size ≤ 24) {k : Nat} (hk : 1099511629000 ≤ k) : ∃ k', 1099511628000 ≤ k' ∧ supercargoref01_Parse.f k s = last k' s (s.extract 0 3) (gather 0 (s.data.toList.drop 4)) := by
  obtain ⟨k, rfl⟩ : ∃ j, k = j + 1 := ⟨k - 1, by omega⟩
  obtain ⟨k', e, h⟩ := parse_l0 s (s.extract 0 3) (s.size - 4) 4 0 (by omega) (by omega) k (by omega)
  refine ⟨k', by omega, ?_⟩
  unfold supercargoref01_Parse.f
  rw [if_neg (by omega), decide_eq_false (by omega)]
  simp only [supercargoref01_Parse.j0]
  rw [if_neg (by simp), if_pos (by omega), if_pos (by omega)]
  exact h
theorem refParse_small {s : ByteArray} (h : s.size < 5 ∨ 24 < s.size) {k : Nat} (hk : 2 ≤ k) : supercargoref01_Parse.f k s = some (strD [], 0, false) := by
  obtain ⟨k, rfl⟩ : ∃ j, k = j + 1 := ⟨k - 1, by omega⟩
  unfold supercargoref01_Parse.f
  by_cases h5 : (s.size : Int) < 5
  · rw [if_pos h5]
    simp only [supercargoref01_Parse.j0]
    rw [if_pos trivial]; rfl
  · rw [if_neg h5, decide_eq_true (by omega)]
    simp only [supercargoref01_Parse.j0]
    rw [if_pos trivial]; rfl
theorem refParse_txt {s : ByteArray} {n : Int} (h : may s n = true) {k : Nat} (hk : 1099511629000 ≤ k) : supercargoref01_Parse.f k (strD (txt s n)) = some (s, n, true) := by
  have hl := txt_len h
  have hs := may_size h
  have hs2 := hs
  rw [size_list] at hs2
  obtain ⟨h0, h1⟩ := may_in h
  have hnl : 1 ≤ (numT (dgs s) n.natAbs).length := by
    unfold numT
    have : ∀ m, 1 ≤ (decDigits m).length := fun m => by
      by_cases hm : m < 10
      · rw [Dec.dec_small hm]; simp
      · rw [Dec.dec_big (by omega)]; simp
    split
    · exact this _
    · rw [List.length_append]; have := this (n.natAbs / 10 ^ dgs s); omega
  have hlen : (txt s n).length = 4 + ((sgn n).length + (numT (dgs s) n.natAbs).length) := by
    unfold txt
    rw [List.length_append, List.length_append, List.length_append, hs2, List.length_singleton]
    omega
  obtain ⟨k', hk', e⟩ := refParse_big (s := strD (txt s n)) (by rw [strD_size]; omega) (by rw [strD_size]; omega) hk
  rw [e, strD_list]
  have e3 : (strD (txt s n)).extract 0 3 = s := by
    rw [extract_strD]
    unfold txt
    rw [List.drop_zero, ← hs2, Nat.sub_zero, List.take_left, strD_self]
  have e4 : (txt s n).drop 4 = sgn n ++ numT (dgs s) n.natAbs := by
    unfold txt
    rw [show (4 : Nat) = s.data.toList.length + 1 by omega, List.drop_append]
    simp
  rw [e3, e4, gather_app, gather_sgn, gather_num (by omega)]
  unfold last
  rw [if_pos (by rw [strD_size]; omega)]
  have hb : bt (strD (txt s n)) 4 = 45 ↔ n < 0 := by
    have hlt : 4 < (strD (txt s n)).data.toList.length := by rw [strD_list]; omega
    have := bt_nat (strD (txt s n)) 4 hlt
    rw [show ((4 : Nat) : Int) = 4 from rfl] at this
    rw [this]
    have hget : (strD (txt s n)).data.toList[4] = (sgn n ++ numT (dgs s) n.natAbs)[0]'(by rw [List.length_append]; omega) := by
      have := List.getElem_drop (xs := txt s n) (i := 4) (j := 0) (h := by rw [e4, List.length_append]; omega)
      simp only [e4] at this
      exact this.symm
    rw [hget]
    by_cases hn : n < 0
    · have : sgn n = [45] := by unfold sgn; rw [if_pos hn]
      simp [this, hn]
    · have hsg : sgn n = [] := by unfold sgn; rw [if_neg hn]
      have hdig : ∀ (l : List UInt8) (hl : 0 < l.length) (r : List UInt8), l.all Dec.isDig = true → ((l ++ r)[0]'(by rw [List.length_append]; omega)).toNat ≠ 45 := by
        intro l hl r ha
        cases l with
        | nil => simp at hl
        | cons x l =>
          rw [List.all_cons, Bool.and_eq_true] at ha
          have h1 := ha.1
          unfold Dec.isDig at h1
          rw [Bool.and_eq_true, decide_eq_true_eq, decide_eq_true_eq] at h1
          show x.toNat ≠ 45
          omega
      have hne : ((numT (dgs s) n.natAbs)[0]'(by omega)).toNat ≠ 45 := by
        have hp : ∀ m, 0 < (decDigits m).length := fun m => by
          by_cases hm : m < 10
          · rw [Dec.dec_small hm]; simp
          · rw [Dec.dec_big (by omega)]; simp
        unfold numT
        by_cases h0 : dgs s = 0
        · simp only [h0, ↓reduceIte]
          have := hdig (decDigits n.natAbs) (hp _) [] (Dec.dec_all _)
          simpa using this
        · simp only [h0, ↓reduceIte]
          exact hdig (decDigits (n.natAbs / 10 ^ dgs s)) (hp _) _ (Dec.dec_all _)
      simp only [hsg, List.nil_append, hn, iff_false]
      intro h45
      exact hne (by omega)
  have ht := refText_eq s n (k := k') hk'
  rw [if_pos h] at ht
  by_cases hn : n < 0
  · rw [if_pos (hb.2 hn), wrap_in (by omega) (by omega), show -(n.natAbs : Int) = n by omega, ht, Option.bind_some, if_pos rfl]
  · rw [if_neg (fun x => hn (hb.1 x)), show (n.natAbs : Int) = n by omega, ht, Option.bind_some, if_pos rfl]
theorem refParse_no {s : ByteArray} (h : ∀ c n, may c n = true → s ≠ strD (txt c n)) {k : Nat} (hk : 1099511629000 ≤ k) : supercargoref01_Parse.f k s = some (strD [], 0, false) := by
  by_cases h5 : 5 ≤ s.size
  · by_cases h24 : s.size ≤ 24
    · obtain ⟨k', hk', e⟩ := refParse_big h5 h24 hk
      rw [e]
      unfold last
      rw [if_pos (by omega)]
      have no : ∀ c r, ¬ (if may c r = true then strD (txt c r) else strD []).toList = s.toList := by
        intro c r
        rw [ByteArray.toList_eq, ByteArray.toList_eq]
        intro he
        by_cases hm : may c r = true
        · rw [if_pos hm, strD_list] at he
          exact h c r hm (by rw [← strD_self s, ← he])
        · rw [if_neg hm, strD_list] at he
          have : s.size = 0 := by rw [size_list, ← he]; rfl
          omega
      by_cases hb : bt s 4 = 45
      · rw [if_pos hb, refText_eq _ _ hk', Option.bind_some, if_neg (no _ _)]; rfl
      · rw [if_neg hb, refText_eq _ _ hk', Option.bind_some, if_neg (no _ _)]; rfl
    · exact refParse_small (.inr (by omega)) (by omega)
  · exact refParse_small (.inl (by omega)) (by omega)
theorem MoneyParses (s : ByteArray) (_ : s.size ≤ 140737488351232) : ∃ k, supercargolaw01_MoneyParses.f k s = some true := by
  refine ⟨1099511629000, ?_⟩
  generalize hk : (1099511629000 : Nat) = k
  have hk2 : 1099511629000 ≤ k := by omega
  clear hk
  have haw := awake_eq (k := k) (by omega)
  unfold supercargolaw01_MoneyParses.f
  by_cases h60 : (s.size : Int) > 60
  · rw [if_pos h60, haw]; rfl
  · rw [if_neg h60]
    by_cases h : ∃ c n, may c n = true ∧ s = strD (txt c n)
    · obtain ⟨c, n, hm, rfl⟩ := h
      rw [Parse_txt hm (by omega), Option.bind_some, refParse_txt hm hk2, Option.bind_some]
      simp only []
      rw [if_pos trivial, if_pos (by simp), if_pos trivial, Text_eq c n (by omega), Option.bind_some, if_pos hm, if_pos rfl, haw]; rfl
    · have hno : ∀ c n, may c n = true → s ≠ strD (txt c n) := fun c n hm e => h ⟨c, n, hm, e⟩
      rw [Parse_no (by omega) hno (by omega), Option.bind_some, refParse_no hno hk2, Option.bind_some]
      simp only []
      rw [if_neg (by simp), if_pos (by simp [ByteArray.toList_eq, strD_list]), if_pos trivial, haw]; rfl
end Go.Proofs.YtggjphcikcflkaaDoor.Pure
