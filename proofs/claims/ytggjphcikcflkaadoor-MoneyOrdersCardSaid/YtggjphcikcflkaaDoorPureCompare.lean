/- Fractions held against one another, by the program, in plain Lean: crosswise, exactly. -/
import Derived.Test.YtggjphcikcflkaaDoorPureMay
import Derived.Test.YtggjphcikcflkaaDoorEuclid
import Derived.Test.YtggjphcikcflkaaDoorPx26
namespace Go.Proofs.YtggjphcikcflkaaDoor.Pure
open Go.RowKit Go.Proofs.YtggjphcikcflkaaDoor.P Go.Proofs.YtggjphcikcflkaaDoorW.PrintWords Go.Proofs.YtggjphcikcflkaaDoorW.PrintLast Go.Proofs.YtggjphcikcflkaaDoorW.PrintMore
/-- A fraction's numbers; 0 over 1, if it may not be. -/
def hn (a b : Int) : Nat := if 0 ≤ a ∧ 1 ≤ b then a.toNat else 0
def hb (a b : Int) : Nat := if 0 ≤ a ∧ 1 ≤ b then b.toNat else 1
theorem hb_pos (a b : Int) : 0 < hb a b := by
  unfold hb
  split <;> omega
theorem hn_le {a : Int} (b : Int) (h : a ≤ 9223372036854775807) : hn a b ≤ 9223372036854775807 := by
  unfold hn
  split <;> omega
theorem hb_le (a : Int) {b : Int} (h : b ≤ 9223372036854775807) : hb a b ≤ 9223372036854775807 := by
  unfold hb
  split <;> omega
theorem fraction_eq (a b : Int) : money_fraction.f a b = some (decide (0 ≤ a ∧ 1 ≤ b)) := by
  unfold money_fraction.f
  by_cases h : a ≥ 0
  · rw [if_pos h]
    congr 1
    by_cases h2 : b ≥ 1
    · rw [decide_eq_true h2, decide_eq_true (show 0 ≤ a ∧ 1 ≤ b from ⟨h, h2⟩)]
    · rw [decide_eq_false h2, decide_eq_false (show ¬ (0 ≤ a ∧ 1 ≤ b) from fun x => h2 x.2)]
  · rw [if_neg h, decide_eq_false (show ¬ (0 ≤ a ∧ 1 ≤ b) from fun x => h x.1)]
theorem held_eq (a b : Int) : money_held.f a b = some ((hn a b : Int), (hb a b : Int)) := by
  unfold money_held.f hn hb
  rw [fraction_eq, Option.bind_some]
  by_cases h : 0 ≤ a ∧ 1 ≤ b
  · rw [decide_eq_true h, if_pos rfl, if_pos h, if_pos h, Int.toNat_of_nonneg h.1, Int.toNat_of_nonneg (by omega)]
  · rw [decide_eq_false h, if_neg (by simp), if_neg h, if_neg h]; rfl
theorem cmpU_eq (x y : Int) : cmp_Compare_uint64.f x y = some (if x < y then -1 else if x > y then 1 else 0) := by
  unfold cmp_Compare_uint64.f cmp_isNaN_uint64.f
  rw [Option.bind_some, Option.bind_some, if_neg (by simp), if_neg (by simp)]
  by_cases h : x < y
  · rw [if_pos h, if_pos h]
  · rw [if_neg h, if_neg h]
    by_cases h2 : x > y
    · rw [if_pos h2, if_pos h2]
    · rw [if_neg h2, if_neg h2]
theorem or_eq (x y : Int) {k : Nat} (hk : 3 ≤ k) : cmp_Or_int.f k [x, y] = some (if x = 0 then y else x) := by
  obtain ⟨k, rfl⟩ : ∃ j, k = j + 1 := ⟨k - 1, by omega⟩
  obtain ⟨k, rfl⟩ : ∃ j, k = j + 1 := ⟨k - 1, by omega⟩
  obtain ⟨k, rfl⟩ : ∃ j, k = j + 1 := ⟨k - 1, by omega⟩
  have r0 : rd [x, y] 0 = x := rfl
  have r1 : rd [x, y] 1 = y := rfl
  have w1 : wrap64 (0 + 1) = 1 := wrap_in (x := 0 + 1) (by omega) (by omega)
  have w2 : wrap64 (1 + 1) = 2 := wrap_in (x := 1 + 1) (by omega) (by omega)
  unfold cmp_Or_int.f
  simp only [cmp_Or_int.l0, List.length_cons, List.length_nil]
  rw [if_pos (by decide), if_pos (by decide), if_pos (by decide), r0, w1]
  by_cases h : x = 0
  · rw [if_pos h, if_pos h, if_pos (by decide), if_pos (by decide), if_pos (by decide), r1, w2]
    by_cases h2 : y = 0
    · rw [if_pos h2, if_neg (by decide), h2]
    · rw [if_neg h2]
  · rw [if_neg h, if_neg h]
theorem mul_eq {x y : Nat} (hx : x ≤ 9223372036854775807) (hy : y ≤ 9223372036854775807) : bits_Mul64.f (IntKind.u64.wrap (x : Int)) (IntKind.u64.wrap (y : Int)) = some (((x * y / 18446744073709551616 : Nat) : Int), ((x * y % 18446744073709551616 : Nat) : Int)) := by
  unfold bits_Mul64.f
  rw [wrapU_in (by omega) (by omega), wrapU_in (by omega) (by omega), if_pos ⟨⟨by omega, by omega⟩, by omega, by omega⟩, ← Int.natCast_mul]
  rfl
theorem Compare_eq {a b c d : Int} (ha : a ≤ 9223372036854775807) (hb' : b ≤ 9223372036854775807) (hc : c ≤ 9223372036854775807) (hd : d ≤ 9223372036854775807) {k : Nat} (hk : 4 ≤ k) :
    money_Compare.f k a b c d = some (Frac.cmpN (hn a b) (hb a b) (hn c d) (hb c d)) := by
  unfold money_Compare.f
  rw [held_eq, Option.bind_some, held_eq, Option.bind_some]
  simp only []
  rw [mul_eq (hn_le _ ha) (hb_le _ hd), Option.bind_some, mul_eq (hn_le _ hc) (hb_le _ hb'), Option.bind_some]
  simp only []
  rw [cmpU_eq, Option.bind_some, cmpU_eq, Option.bind_some, or_eq _ _ (by omega), Option.bind_some]
  unfold Frac.cmpN
  generalize hn a b * hb c d = X
  generalize hn c d * hb a b = Y
  congr 1
  have e1 := Nat.div_add_mod X 18446744073709551616
  have e2 := Nat.div_add_mod Y 18446744073709551616
  have l1 := Nat.mod_lt X (show 0 < 18446744073709551616 by omega)
  have l2 := Nat.mod_lt Y (show 0 < 18446744073709551616 by omega)
  generalize X / 18446744073709551616 = p at e1
  generalize Y / 18446744073709551616 = q at e2
  generalize X % 18446744073709551616 = r at e1 l1
  generalize Y % 18446744073709551616 = s at e2 l2
  by_cases h1 : p < q
  · rw [if_pos (show (p : Int) < (q : Int) by omega), if_neg (by omega), if_pos (by omega)]
  · rw [if_neg (show ¬ (p : Int) < (q : Int) by omega)]
    by_cases h2 : p > q
    · rw [if_pos (show (p : Int) > (q : Int) by omega), if_neg (by omega), if_neg (by omega), if_pos (by omega)]
    · rw [if_neg (show ¬ (p : Int) > (q : Int) by omega), if_pos rfl]
      by_cases h3 : r < s
      · rw [if_pos (show (r : Int) < (s : Int) by omega), if_pos (by omega)]
      · rw [if_neg (show ¬ (r : Int) < (s : Int) by omega)]
        by_cases h4 : r > s
        · rw [if_pos (show (r : Int) > (s : Int) by omega), if_neg (show ¬ X < Y by omega), if_pos (show Y < X by omega)]
        · rw [if_neg (show ¬ (r : Int) > (s : Int) by omega), if_neg (show ¬ X < Y by omega), if_neg (show ¬ Y < X by omega)]
end Go.Proofs.YtggjphcikcflkaaDoor.Pure
