/- What the program parses of money's text, in plain Lean. -/
import Derived.Test.YtggjphcikcflkaaDoorPureText
import Derived.Test.YtggjphcikcflkaaDoorPx16
namespace Go.Proofs.YtggjphcikcflkaaDoor.Pure
open Go.RowKit Go.Proofs.YtggjphcikcflkaaDoor.P Go.Proofs.YtggjphcikcflkaaDoorW.PrintWords Go.Proofs.YtggjphcikcflkaaDoorW.PrintLast Go.Proofs.YtggjphcikcflkaaDoorW.PrintMore
open Lib (decDigits)
theorem pre_one (c b : UInt8) (l : List UInt8) : List.isPrefixOf [c] (b :: l) = (c == b) := by simp [List.isPrefixOf]
theorem index_hit {c : UInt8} (B : List UInt8) : ∀ A : List UInt8, c ∉ A → Lib.index (A ++ c :: B) [c] = (A.length : Int)
  | [], _ => by
    show Lib.index (c :: B) [c] = _
    unfold Lib.index
    rw [pre_one, if_pos (by simp)]; rfl
  | b :: A, h => by
    have hb : (c == b) = false := by
      have : c ≠ b := fun e => h (by rw [e]; exact List.mem_cons_self)
      simpa using this
    have ih := index_hit B A (fun hm => h (List.mem_cons_of_mem _ hm))
    show Lib.index (b :: (A ++ c :: B)) [c] = _
    unfold Lib.index
    rw [pre_one, hb, if_neg (by simp), ih, if_neg (by simp)]
    simp
theorem index_miss {c : UInt8} : ∀ A : List UInt8, c ∉ A → Lib.index A [c] = -1
  | [], _ => rfl
  | b :: A, h => by
    have hb : (c == b) = false := by
      have : c ≠ b := fun e => h (by rw [e]; exact List.mem_cons_self)
      simpa using this
    have ih := index_miss A (fun hm => h (List.mem_cons_of_mem _ hm))
    unfold Lib.index
    rw [pre_one, hb, if_neg (by simp), ih, if_pos (by simp)]
theorem first_of {c : UInt8} : ∀ {l : List UInt8}, c ∈ l → ∃ A B, l = A ++ c :: B ∧ c ∉ A
  | [], h => by cases h
  | b :: l, h => by
    by_cases e : c = b
    · exact ⟨[], l, by rw [e]; rfl, by simp⟩
    · obtain ⟨A, B, e2, hA⟩ := first_of ((List.mem_cons.1 h).resolve_left e)
      exact ⟨b :: A, B, by rw [e2]; rfl, fun hm => (List.mem_cons.1 hm).elim e hA⟩
theorem index_some {c : UInt8} {l : List UInt8} (h : Lib.index l [c] ≠ -1) : ∃ A B, l = A ++ c :: B ∧ c ∉ A := by
  by_cases hm : c ∈ l
  · obtain ⟨A, B, e, hA⟩ := first_of hm
    exact ⟨A, B, e, hA⟩
  · exact absurd (index_miss l hm) h
theorem cut_hit {c : UInt8} {A B : List UInt8} (h : c ∉ A) : Lib.cut (A ++ c :: B) [c] = (A, B, true) := by
  unfold Lib.cut
  rw [index_hit B A h, if_pos (by omega), Int.toNat_natCast]
  simp
theorem cut_miss {c : UInt8} {A : List UInt8} (h : c ∉ A) : Lib.cut A [c] = (A, [], false) := by
  unfold Lib.cut
  rw [index_miss A h, if_neg (by omega)]
theorem replace_hit {A B : List UInt8} (h : (46 : UInt8) ∉ A) : Lib.replace (A ++ 46 :: B) [46] [] 1 = A ++ B := by
  have hi := index_hit (c := 46) B A h
  have hc : Lib.replaceNum (A ++ 46 :: B) [46] 1 = 1 := by
    unfold Lib.replaceNum
    have : 1 ≤ Lib.count (A ++ 46 :: B) [46] := by
      unfold Lib.count Lib.countFrom
      rw [hi, if_neg (by simp)]
      omega
    rw [if_neg (by omega)]; rfl
  unfold Lib.replace
  rw [if_neg (by decide), hc, Lib.replaceK_hit _ _ 0 _ A.length hi]
  unfold Lib.replaceK
  simp
theorem replace_miss {A : List UInt8} (h : (46 : UInt8) ∉ A) : Lib.replace A [46] [] 1 = A := by
  have hi := index_miss (c := 46) A h
  have hc : Lib.replaceNum A [46] 1 = 0 := by
    unfold Lib.replaceNum
    have : Lib.count A [46] = 0 := by
      unfold Lib.count Lib.countFrom
      rw [hi, if_pos (by simp)]
    rw [this, if_pos (by omega)]
  unfold Lib.replace
  rw [if_neg (by decide), hc]
  rfl
theorem dig_mem {l : List UInt8} (h : l.all Dec.isDig = true) : (46 : UInt8) ∉ l := by
  intro hm
  have := List.all_eq_true.1 h _ hm
  exact absurd this (by decide)
theorem sgn_mem (n : Int) : (46 : UInt8) ∉ sgn n := by
  unfold sgn
  split <;> simp
/-- The digits, the point taken out. -/
def digT (d n : Nat) : List UInt8 := if d = 0 then decDigits n else decDigits (n / 10 ^ d) ++ Dec.pad d n
theorem digT_all (d n : Nat) : (digT d n).all Dec.isDig = true := by
  unfold digT
  split
  · exact Dec.dec_all n
  · rw [List.all_append, Dec.dec_all, Dec.pad_all]; rfl
theorem digT_ne (d n : Nat) : digT d n ≠ [] := by
  have h0 : ∀ m, decDigits m ≠ [] := by
    intro m h
    by_cases hm : m < 10
    · rw [Dec.dec_small hm] at h; cases h
    · rw [Dec.dec_big (by omega)] at h; simp at h
  unfold digT
  split
  · exact h0 n
  · intro h
    exact h0 _ (List.append_eq_nil_iff.1 h).1
theorem digT_val (d n : Nat) : Dec.val 0 (digT d n) = n := by
  unfold digT
  split
  · exact Dec.val_dec n
  · rw [Dec.val_app, Dec.val_dec, Dec.val_pad, Nat.mul_comm]
    exact Nat.div_add_mod n (10 ^ d)
theorem point_out (n : Int) (d m : Nat) : Lib.replace (sgn n ++ numT d m) [46] [] 1 = sgn n ++ digT d m := by
  unfold numT digT
  by_cases h0 : d = 0
  · rw [if_pos h0, if_pos h0]
    exact replace_miss (fun h => (List.mem_append.1 h).elim (sgn_mem n) (dig_mem (Dec.dec_all m)))
  · rw [if_neg h0, if_neg h0]
    have := replace_hit (A := sgn n ++ decDigits (m / 10 ^ d)) (B := Dec.pad d m) (fun h => (List.mem_append.1 h).elim (sgn_mem n) (dig_mem (Dec.dec_all _)))
    simpa [List.append_assoc] using this
theorem read_int {n : Int} (h0 : -1099511627776 ≤ n) (h1 : n ≤ 1099511627776) (d : Nat) : Lib.parseIntB 64 (sgn n ++ digT d n.natAbs) = .ok n := by
  have hb : Dec.val 0 (digT d n.natAbs) < 1000000000000000000 := by rw [digT_val]; omega
  unfold sgn
  by_cases hn : n < 0
  · rw [if_pos hn]
    have := Dec.parseInt_minus (digT_ne d n.natAbs) (digT_all _ _) hb
    rw [digT_val] at this
    rw [show [45] ++ digT d n.natAbs = 45 :: digT d n.natAbs from rfl, this]
    congr 1
    omega
  · rw [if_neg hn, List.nil_append, Dec.parseInt_digits (digT_ne d n.natAbs) (digT_all _ _) hb, digT_val]
    congr 1
    omega
theorem numT_len {d n : Nat} (hd : d ≤ 3) (hn : n ≤ 1099511627776) : (numT d n).length ≤ 17 := by
  unfold numT
  split
  · exact Nat.le_trans (dec_len hn) (by omega)
  · rw [List.length_append, List.length_append, Dec.pad_length]
    have := dec_len (n := n / 10 ^ d) (Nat.le_trans (Nat.div_le_self _ _) hn)
    simp; omega
theorem txt_len {s : ByteArray} {n : Int} (h : may s n = true) : (txt s n).length ≤ 24 := by
  have hs := may_size h
  have hs2 := hs
  rw [size_list] at hs2
  obtain ⟨h0, h1⟩ := may_in h
  have := numT_len (dgs_le s) (n := n.natAbs) (by omega)
  have := sgn_len n
  unfold txt
  rw [List.length_append, List.length_append, List.length_append, hs2, List.length_singleton]
  omega
theorem cur_blank {s : ByteArray} (h : cur s = true) : (32 : UInt8) ∉ s.data.toList := by
  obtain ⟨a, b, c, e, ha, hb, hc⟩ := cur_three h
  rw [e]
  intro hm
  simp at hm
  rcases hm with e | e | e
  · exact upper_ne ha e.symm
  · exact upper_ne hb e.symm
  · exact upper_ne hc e.symm
theorem ok_size (l : List UInt8) : (⟨l.toArray⟩ : ByteArray).size = l.length := strD_size l
theorem Parse_txt {s : ByteArray} {n : Int} (h : may s n = true) {k : Nat} (hk : 2 ≤ k) : money_Parse.f k (strD (txt s n)) = some (s, n, 0) := by
  have hl := txt_len h
  obtain ⟨h0, h1⟩ := may_in h
  unfold money_Parse.f strings_Cut.f
  rw [if_pos (by rw [strD_size]; omega), strD_list]
  have hc : Lib.cut (txt s n) [32] = (s.data.toList, sgn n ++ numT (dgs s) n.natAbs, true) := cut_hit (cur_blank (may_cur h))
  rw [show (⟨#[32]⟩ : ByteArray).data.toList = [32] from rfl, hc, Option.bind_some]
  simp only [if_true]
  have hlen : (sgn n ++ numT (dgs s) n.natAbs).length ≤ 20 := by
    have := numT_len (dgs_le s) (n := n.natAbs) (by omega)
    have := sgn_len n
    rw [List.length_append]; omega
  unfold strings_Replace.f
  rw [if_pos ⟨by rw [ok_size]; omega, by decide, by rw [ok_size]; show _ + _ * 0 ≤ _; omega⟩, Option.bind_some]
  rw [show (⟨(sgn n ++ numT (dgs s) n.natAbs).toArray⟩ : ByteArray).data.toList = sgn n ++ numT (dgs s) n.natAbs from rfl, show (⟨#[46]⟩ : ByteArray).data.toList = [46] from rfl, show (⟨#[]⟩ : ByteArray).data.toList = [] from rfl, point_out]
  have hdl : (digT (dgs s) n.natAbs).length ≤ 20 := by
    have h3 := dgs_le s
    unfold digT
    split
    · exact Nat.le_trans (dec_len (by omega)) (by omega)
    · rw [List.length_append, Dec.pad_length]
      have := dec_len (n := n.natAbs / 10 ^ dgs s) (Nat.le_trans (Nat.div_le_self _ _) (by omega))
      omega
  unfold strconv_ParseInt.f
  rw [if_pos ⟨by rw [ok_size, List.length_append]; have := sgn_len n; omega, rfl, rfl⟩, show (⟨(sgn n ++ digT (dgs s) n.natAbs).toArray⟩ : ByteArray).data.toList = sgn n ++ digT (dgs s) n.natAbs from rfl, read_int h0 h1]
  simp only [Option.bind_some]
  rw [if_neg (by simp)]
  have hself : (⟨s.data.toList.toArray⟩ : ByteArray) = s := strD_self s
  rw [hself, Text_eq s n hk, Option.bind_some, if_pos h, if_pos rfl]
/-- What is no money's text: nothing, and the error of form. -/
theorem Parse_no {s : ByteArray} (hs : s.size ≤ 60) (h : ∀ c n, may c n = true → s ≠ strD (txt c n)) {k : Nat} (hk : 2 ≤ k) : money_Parse.f k s = some (strD [], 0, 2) := by
  unfold money_Parse.f strings_Cut.f
  rw [if_pos (by omega), Option.bind_some, show (⟨#[32]⟩ : ByteArray).data.toList = [32] from rfl]
  by_cases hm : (32 : UInt8) ∈ s.data.toList
  · obtain ⟨A, B, e, hA⟩ := first_of hm
    have hlen : A.length + B.length + 1 ≤ 60 := by
      have := size_list s
      rw [e, List.length_append, List.length_cons] at this
      omega
    rw [e, cut_hit hA]
    simp only [if_true]
    unfold strings_Replace.f
    rw [if_pos ⟨by rw [ok_size]; omega, by decide, by rw [ok_size]; show _ + _ * 0 ≤ _; omega⟩, Option.bind_some]
    rw [show (⟨B.toArray⟩ : ByteArray).data.toList = B from rfl, show (⟨#[46]⟩ : ByteArray).data.toList = [46] from rfl, show (⟨#[]⟩ : ByteArray).data.toList = [] from rfl]
    have hR : (Lib.replace B [46] [] 1).length ≤ 60 := by
      by_cases hp : (46 : UInt8) ∈ B
      · obtain ⟨X, Y, e2, hX⟩ := first_of hp
        subst e2
        rw [replace_hit hX, List.length_append]
        rw [List.length_append, List.length_cons] at hlen
        omega
      · rw [replace_miss hp]; omega
    generalize Lib.replace B [46] [] 1 = R at hR
    unfold strconv_ParseInt.f
    rw [if_pos ⟨by rw [ok_size]; omega, rfl, rfl⟩, show (⟨R.toArray⟩ : ByteArray).data.toList = R from rfl]
    rcases Lib.parseIntB 64 R with v | _ | _
    · simp only [Option.bind_some]
      rw [if_neg (by simp), Text_eq _ _ hk, Option.bind_some]
      have hne : ¬ (if may ⟨A.toArray⟩ v = true then strD (txt ⟨A.toArray⟩ v) else strD []).toList = s.toList := by
        rw [ByteArray.toList_eq, ByteArray.toList_eq]
        intro he
        by_cases hmay : may ⟨A.toArray⟩ v = true
        · rw [if_pos hmay, strD_list] at he
          exact h _ _ hmay (by rw [← strD_self s, ← he])
        · rw [if_neg hmay, strD_list, e] at he
          simp at he
      rw [if_neg hne]; rfl
    · rfl
    · rfl
  · rw [cut_miss hm]; rfl
end Go.Proofs.YtggjphcikcflkaaDoor.Pure
