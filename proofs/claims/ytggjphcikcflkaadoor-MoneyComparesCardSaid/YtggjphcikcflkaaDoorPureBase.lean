/- Words for all of money: texts out of lists, whole numbers without wrapping, a currency, whether money may be; in plain Lean. -/
import Derived.Test.YtggjphcikcflkaaDoorPx4
import Derived.Laws.RangeString
import Derived.Laws.RangeAny
import Derived.OpenShut
namespace Go.Proofs.YtggjphcikcflkaaDoor.Pure
open Go.RowKit Go.Proofs.YtggjphcikcflkaaDoor.P Go.Proofs.YtggjphcikcflkaaDoorW.PrintWords Go.Proofs.YtggjphcikcflkaaDoorW.PrintLast Go.Proofs.YtggjphcikcflkaaDoorW.PrintMore
theorem wrap_in {x : Int} (h0 : -9223372036854775808 ≤ x) (h1 : x ≤ 9223372036854775807) : wrap64 x = x := by unfold wrap64; omega
theorem wrap_next {n : Nat} (h : n < 4611686018427387904) : wrap64 ((n : Int) + 1) = ((n + 1 : Nat) : Int) := by unfold wrap64; omega
theorem wrapU_in {x : Int} (h0 : 0 ≤ x) (h1 : x < 18446744073709551616) : IntKind.u64.wrap x = x := by rw [IntKind.wrap_u64]; omega
theorem wf64 {n : Int} (h : (Lit.int .i64 n).wf = true) : -9223372036854775808 ≤ n ∧ n ≤ 9223372036854775807 := by
  exact bounds_i64 h
def strD (l : List UInt8) : ByteArray := ⟨l.toArray⟩
theorem strD_size (l : List UInt8) : (strD l).size = l.length := by
  show l.toArray.size = l.length
  simp
theorem strD_list (l : List UInt8) : (strD l).data.toList = l := rfl
theorem strD_self (s : ByteArray) : strD s.data.toList = s := by cases s; rfl
theorem strD_app (a b : List UInt8) : strD a ++ strD b = strD (a ++ b) := by
  apply ByteArray.ext
  rw [ByteArray.data_append]
  simp [strD]
theorem strD_inj {a b : List UInt8} (h : strD a = strD b) : a = b := by rw [← strD_list a, h, strD_list]
theorem size_list (s : ByteArray) : s.size = s.data.toList.length := by simp
theorem extract_list (s : ByteArray) (i j : Nat) : (s.extract i j).data.toList = (s.data.toList.drop i).take (j - i) := by
  rw [ByteArray.data_extract, Array.toList_extract, List.extract_eq_take_drop]
theorem extract_strD (l : List UInt8) (i j : Nat) : (strD l).extract i j = strD ((l.drop i).take (j - i)) := by
  rw [← strD_self ((strD l).extract i j), extract_list, strD_list]
theorem bt_nat (t : ByteArray) (n : Nat) (h : n < t.data.toList.length) : bt t (n : Int) = ((t.data.toList[n]).toNat : Int) := by
  have h' : n < t.size := by simpa using h
  unfold bt
  rw [dif_pos (by simpa using h')]
  rfl
/-- A letter of a currency. -/
def upper (b : UInt8) : Bool := decide (65 ≤ b.toNat) && decide (b.toNat ≤ 90)
/-- A currency. -/
def cur (s : ByteArray) : Bool := decide (s.size = 3) && s.data.toList.all upper
theorem idx_all (s : ByteArray) : ∀ (f pos : Nat), s.size - pos ≤ f → decide (0 ≤ Lib.idxFuncFrom MoneyCur.out true s f pos) = !((s.data.toList.drop pos).all upper) := by
  intro f
  induction f with
  | zero =>
    intro pos h
    rw [List.drop_of_length_le (by rw [← size_list]; omega)]
    rfl
  | succ f ih =>
    intro pos h
    unfold Lib.idxFuncFrom
    by_cases hp : pos < s.size
    · rw [if_pos hp]
      have hl : pos < s.data.toList.length := by rw [← size_list]; exact hp
      have hg : s.data.toList[pos] = s[pos]'hp := rfl
      rw [List.drop_eq_getElem_cons hl, List.all_cons, hg]
      by_cases ha : (s[pos]'hp).toNat < 128
      · rw [decode_ascii s pos hp ha]
        simp only []
        by_cases hu : upper (s[pos]'hp) = true
        · have ho : MoneyCur.out (s[pos]'hp).toNat = false := by
            unfold upper at hu
            unfold MoneyCur.out
            simp only [Bool.and_eq_true, decide_eq_true_eq] at hu
            rw [decide_eq_false (by omega), decide_eq_false (by omega)]; rfl
          rw [ho, if_neg (by simp), hu, Bool.true_and]
          exact ih (pos + 1) (by omega)
        · have hf := Bool.eq_false_iff.mpr hu
          have ho : MoneyCur.out (s[pos]'hp).toNat = true := by
            unfold upper at hf
            unfold MoneyCur.out
            rcases Nat.lt_or_ge (s[pos]'hp).toNat 65 with h1 | h1
            · rw [decide_eq_true h1]; rfl
            · rw [decide_eq_true h1, Bool.true_and, decide_eq_false_iff_not] at hf
              rw [Bool.or_eq_true]
              exact .inr (decide_eq_true (by omega))
          rw [ho, if_pos rfl, hf, Bool.false_and]
          exact decide_eq_true (by omega)
      · have hd := (decode_high s pos hp (by omega)).1
        have ho : MoneyCur.out (Utf8.decode s pos).1 = true := by
          unfold MoneyCur.out
          rw [decide_eq_true (show 90 < (Utf8.decode s pos).1 by omega), Bool.or_true]
        have hf : upper (s[pos]'hp) = false := by
          unfold upper
          rw [decide_eq_false (show ¬ (s[pos]'hp).toNat ≤ 90 by omega), Bool.and_false]
        rw [ho, if_pos rfl, hf, Bool.false_and]
        exact decide_eq_true (by omega)
    · rw [if_neg hp, List.drop_of_length_le (by rw [← size_list]; omega)]
      rfl
theorem cur_eq (s : ByteArray) : MoneyCur.curB s = cur s := by
  unfold MoneyCur.curB cur Lib.idxFunc
  rw [idx_all s s.size 0 (by omega), List.drop_zero, Bool.not_not]
def within (n : Int) : Bool := decide (-1099511627776 ≤ n) && decide (n ≤ 1099511627776)
/-- Whether money may be. -/
def may (s : ByteArray) (n : Int) : Bool := cur s && within n
theorem within_eq (n : Int) : money_within.f n = some (within n) := by
  unfold money_within.f within
  by_cases h : n ≥ -1099511627776
  · rw [if_pos h, decide_eq_true (show -1099511627776 ≤ n from h), Bool.true_and]
  · rw [if_neg h, decide_eq_false (show ¬ -1099511627776 ≤ n from h), Bool.false_and]
theorem may_eq (s : ByteArray) (n : Int) : money_May.f s n = some (may s n) := by
  unfold money_May.f money_currency.f may
  rw [Option.bind_some, cur_eq]
  cases cur s with
  | true => rw [if_pos rfl, within_eq, Option.bind_some, Bool.true_and]
  | false => rw [if_neg (by simp), Bool.false_and]
theorem cur_size {s : ByteArray} (h : cur s = true) : s.size = 3 := by
  unfold cur at h
  rw [Bool.and_eq_true, decide_eq_true_eq] at h
  exact h.1
theorem may_size {s : ByteArray} {n : Int} (h : may s n = true) : s.size = 3 := by
  unfold may at h
  rw [Bool.and_eq_true] at h
  exact cur_size h.1
theorem may_in {s : ByteArray} {n : Int} (h : may s n = true) : -1099511627776 ≤ n ∧ n ≤ 1099511627776 := by
  unfold may within at h
  rw [Bool.and_eq_true, Bool.and_eq_true, decide_eq_true_eq, decide_eq_true_eq] at h
  exact h.2
theorem may_cur {s : ByteArray} {n : Int} (h : may s n = true) : cur s = true := by
  unfold may at h
  rw [Bool.and_eq_true] at h
  exact h.1
theorem may_mk {s : ByteArray} {n : Int} (h : cur s = true) (h0 : -1099511627776 ≤ n) (h1 : n ≤ 1099511627776) : may s n = true := by
  unfold may within
  rw [h, decide_eq_true h0, decide_eq_true h1]; rfl
theorem cur_three {s : ByteArray} (h : cur s = true) : ∃ a b c : UInt8, s.data.toList = [a, b, c] ∧ upper a = true ∧ upper b = true ∧ upper c = true := by
  have h3 := cur_size h
  rw [size_list] at h3
  unfold cur at h
  rw [Bool.and_eq_true] at h
  have h2 := h.2
  match hl : s.data.toList, h3 with
  | [a, b, c], _ =>
    rw [hl] at h2
    simp at h2
    exact ⟨a, b, c, rfl, h2⟩
theorem upper_ne {b : UInt8} (h : upper b = true) : b ≠ 32 := by
  intro e
  subst e
  revert h
  decide
end Go.Proofs.YtggjphcikcflkaaDoor.Pure
