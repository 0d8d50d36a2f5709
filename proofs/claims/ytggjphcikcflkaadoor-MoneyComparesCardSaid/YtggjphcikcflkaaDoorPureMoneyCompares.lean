import Derived.Test.YtggjphcikcflkaaDoorPureMay
import Derived.Test.YtggjphcikcflkaaDoorPx26
import Derived.Test.YtggjphcikcflkaaDoorPx31
/- Fractions held against one another: crosswise, and by whole parts turned over: plain numbers. -/
namespace Frac

/-- Crosswise. -/
def cmpN (a b c d : Nat) : Int := if a * d < c * b then -1 else if c * b < a * d then 1 else 0

theorem cmpN_lt {a b c d : Nat} (h : a * d < c * b) : cmpN a b c d = -1 := by unfold cmpN; rw [if_pos h]
theorem cmpN_gt {a b c d : Nat} (h : c * b < a * d) : cmpN a b c d = 1 := by unfold cmpN; rw [if_neg (by omega), if_pos h]
theorem cmpN_eq {a b c d : Nat} (h : a * d = c * b) : cmpN a b c d = 0 := by unfold cmpN; rw [if_neg (by omega), if_neg (by omega)]

theorem whole_lt {a b c d : Nat} (hb : 0 < b) (hd : 0 < d) (h : a / b < c / d) : cmpN a b c d = -1 := by
  refine cmpN_lt ?_
  have h1 : a < (a / b + 1) * b := by have := Nat.div_add_mod a b; have := Nat.mod_lt a hb; rw [Nat.add_mul, Nat.one_mul, Nat.mul_comm]; omega
  have h2 : (a / b + 1) * b ≤ c / d * b := Nat.mul_le_mul_right b h
  have h3 : c / d * d ≤ c := Nat.div_mul_le_self c d
  have h4 : a * d < c / d * b * d := Nat.mul_lt_mul_of_lt_of_le (by omega) (Nat.le_refl d) hd
  have h5 : c / d * b * d ≤ c * b := by rw [Nat.mul_right_comm]; exact Nat.mul_le_mul_right b h3
  omega
theorem whole_gt {a b c d : Nat} (hb : 0 < b) (hd : 0 < d) (h : c / d < a / b) : cmpN a b c d = 1 := by
  have := whole_lt hd hb h
  refine cmpN_gt ?_
  unfold cmpN at this
  split at this
  · assumption
  · split at this <;> simp at this
theorem rest {a b c d : Nat} (h : a / b = c / d) : a * d < c * b ↔ a % b * d < c % d * b := by
  have h1 := Nat.div_add_mod a b
  have h2 := Nat.div_add_mod c d
  have e1 : a * d = c / d * b * d + a % b * d := by
    rw [← h, ← Nat.add_mul, Nat.mul_comm (a / b) b, h1]
  have e2 : c * b = c / d * b * d + c % d * b := by
    rw [Nat.mul_right_comm, ← Nat.add_mul, Nat.mul_comm (c / d) d, h2]
  omega
theorem cmpN_rest {a b c d : Nat} (h : a / b = c / d) : cmpN a b c d = cmpN (a % b) b (c % d) d := by
  unfold cmpN
  have r1 := rest h
  have r2 := rest h.symm
  simp only [r1, r2]
theorem rest_zero {b d : Nat} : cmpN 0 b 0 d = 0 := cmpN_eq (by simp)
theorem rest_less {b d q : Nat} (hb : 0 < b) (hq : 0 < q) : cmpN 0 b q d = -1 := cmpN_lt (by rw [Nat.zero_mul]; exact Nat.mul_pos hq hb)
theorem rest_more {b d p : Nat} (hd : 0 < d) (hp : 0 < p) : cmpN p b 0 d = 1 := cmpN_gt (by rw [Nat.zero_mul]; exact Nat.mul_pos hp hd)
/-- Turned over. -/
theorem turned {b d p q : Nat} : cmpN p b q d = - cmpN b p d q := by
  unfold cmpN
  rw [Nat.mul_comm b q, Nat.mul_comm d p]
  rcases Nat.lt_trichotomy (p * d) (q * b) with h | h | h
  · rw [if_pos h, if_neg (by omega), if_pos h]
  · rw [if_neg (by omega), if_neg (by omega), if_neg (by omega), if_neg (by omega)]; rfl
  · rw [if_neg (by omega), if_pos h, if_pos h]; rfl
theorem back (a b c d : Nat) : cmpN c d a b = - cmpN a b c d := by
  unfold cmpN
  rcases Nat.lt_trichotomy (a * d) (c * b) with h | h | h
  · rw [if_neg (by omega), if_pos h, if_pos h]; rfl
  · rw [if_neg (by omega), if_neg (by omega), if_neg (by omega), if_neg (by omega)]; rfl
  · rw [if_pos h, if_neg (by omega), if_pos h]
/-- As much: held against any. -/
theorem scaled {a b c d g x y : Nat} (hg : 0 < g) (ha : a = g * x) (hb : b = g * y) : cmpN x y c d = cmpN a b c d := by
  have e1 : a * d = g * (x * d) := by rw [ha, Nat.mul_assoc]
  have e2 : c * b = g * (c * y) := by rw [hb, Nat.mul_left_comm]
  unfold cmpN
  rw [e1, e2]
  simp only [Nat.mul_lt_mul_left hg]
theorem le_iff {a b c d : Nat} : cmpN a b c d ≤ 0 ↔ a * d ≤ c * b := by
  unfold cmpN
  split
  · constructor <;> intros <;> first | omega | decide
  · split
    · constructor
      · intro h; simp at h
      · intro h; omega
    · constructor <;> intros <;> first | omega | decide
theorem lt_iff {a b c d : Nat} : cmpN a b c d < 0 ↔ a * d < c * b := by
  unfold cmpN
  split
  · simp; assumption
  · split
    · simp; omega
    · simp; omega
theorem le_trans {a b c d e f : Nat} (hd : 0 < d) (h1 : a * d ≤ c * b) (h2 : c * f ≤ e * d) : a * f ≤ e * b := by
  have e1 : a * d * f ≤ c * b * f := Nat.mul_le_mul_right f h1
  have e2 : c * f * b ≤ e * d * b := Nat.mul_le_mul_right b h2
  have e3 : d * (a * f) ≤ d * (e * b) := by
    rw [Nat.mul_left_comm, ← Nat.mul_assoc] 
    calc a * d * f ≤ c * b * f := e1
      _ = c * f * b := Nat.mul_right_comm _ _ _
      _ ≤ e * d * b := e2
      _ = d * (e * b) := by rw [Nat.mul_comm e d, Nat.mul_assoc]
  exact Nat.le_of_mul_le_mul_left e3 hd
theorem lt_trans1 {a b c d e f : Nat} (hf : 0 < f) (h1 : a * d < c * b) (h2 : c * f ≤ e * d) : a * f < e * b := by
  have e1 : a * d * f < c * b * f := Nat.mul_lt_mul_of_pos_right h1 hf
  have e2 : c * f * b ≤ e * d * b := Nat.mul_le_mul_right b h2
  have e3 : d * (a * f) < d * (e * b) := by
    rw [Nat.mul_left_comm, ← Nat.mul_assoc]
    calc a * d * f < c * b * f := e1
      _ = c * f * b := Nat.mul_right_comm _ _ _
      _ ≤ e * d * b := e2
      _ = d * (e * b) := by rw [Nat.mul_comm e d, Nat.mul_assoc]
  exact Nat.lt_of_mul_lt_mul_left e3
theorem lt_trans2 {a b c d e f : Nat} (hb : 0 < b) (h1 : a * d ≤ c * b) (h2 : c * f < e * d) : a * f < e * b := by
  have e1 : a * d * f ≤ c * b * f := Nat.mul_le_mul_right f h1
  have e2 : c * f * b < e * d * b := Nat.mul_lt_mul_of_pos_right h2 hb
  have e3 : d * (a * f) < d * (e * b) := by
    rw [Nat.mul_left_comm, ← Nat.mul_assoc]
    calc a * d * f ≤ c * b * f := e1
      _ = c * f * b := Nat.mul_right_comm _ _ _
      _ < e * d * b := e2
      _ = d * (e * b) := by rw [Nat.mul_comm e d, Nat.mul_assoc]
  exact Nat.lt_of_mul_lt_mul_left e3
end Frac

/- Fractions held against one another, by the program, in plain Lean: crosswise, exactly. -/
namespace Go.Proofs.YtggjphcikcflkaaDoor.Pure
open Go.RowKit Go.Proofs.YtggjphcikcflkaaDoor.P Go.Proofs.YtggjphcikcflkaaDoorW.PrintWords Go.Proofs.YtggjphcikcflkaaDoorW.PrintLast Go.Proofs.YtggjphcikcflkaaDoorW.PrintMore
/-- A fraction's numbers; 0 over 1, if it may not be. -/
def hn (a b : Int) : Nat := if 0 ≤ a ∧ 1 ≤ b then a.toNat else 0
def hb (a b : Int) : Nat := if 0 ≤ a ∧ 1 ≤ b then b.toNat else 1
theorem hb_pos (a b : Int) : 0 < hb a b := by
  unfold hb
  split <;> omega
theorem hn_le {a : Int} (b : Int) (h : a ≤ 9223372036854775807) : hn a b ≤ 9223372036854775807 := by
  unfold hn
  split <;> omega
theorem hb_le (a : Int) {b : Int} (h : b ≤ 9223372036854775807) : hb a b ≤ 9223372036854775807 := by
  unfold hb
  split <;> omega
theorem fraction_eq (a b : Int) : money_fraction.f a b = some (decide (0 ≤ a ∧ 1 ≤ b)) := by
  unfold money_fraction.f
  by_cases h : a ≥ 0
  · rw [if_pos h]
    congr 1
    by_cases h2 : b ≥ 1
    · rw [decide_eq_true h2, decide_eq_true (show 0 ≤ a ∧ 1 ≤ b from ⟨h, h2⟩)]
    · rw [decide_eq_false h2, decide_eq_false (show ¬ (0 ≤ a ∧ 1 ≤ b) from fun x => h2 x.2)]
  · rw [if_neg h, decide_eq_false (show ¬ (0 ≤ a ∧ 1 ≤ b) from fun x => h x.1)]
theorem held_eq (a b : Int) : money_held.f a b = some ((hn a b : Int), (hb a b : Int)) := by
  unfold money_held.f hn hb
  rw [fraction_eq, Option.bind_some]
  by_cases h : 0 ≤ a ∧ 1 ≤ b
  · rw [decide_eq_true h, if_pos rfl, if_pos h, if_pos h, Int.toNat_of_nonneg h.1, Int.toNat_of_nonneg (by omega)]
  · rw [decide_eq_false h, if_neg (by simp), if_neg h, if_neg h]; rfl
theorem cmpU_eq (x y : Int) : cmp_Compare_uint64.f x y = some (if x < y then -1 else if x > y then 1 else 0) := by
  unfold cmp_Compare_uint64.f cmp_isNaN_uint64.f
  rw [Option.bind_some, Option.bind_some, if_neg (by simp), if_neg (by simp)]
  by_cases h : x < y
  · rw [if_pos h, if_pos h]
  · rw [if_neg h, if_neg h]
    by_cases h2 : x > y
    · rw [if_pos h2, if_pos h2]
    · rw [if_neg h2, if_neg h2]
theorem or_eq (x y : Int) {k : Nat} (hk : 3 ≤ k) : cmp_Or_int.f k [x, y] = some (if x = 0 then y else x) := by
  obtain ⟨k, rfl⟩ : ∃ j, k = j + 1 := ⟨k - 1, by omega⟩
  obtain ⟨k, rfl⟩ : ∃ j, k = j + 1 := ⟨k - 1, by omega⟩
  obtain ⟨k, rfl⟩ : ∃ j, k = j + 1 := ⟨k - 1, by omega⟩
  have r0 : rd [x, y] 0 = x := rfl
  have r1 : rd [x, y] 1 = y := rfl
  have w1 : wrap64 (0 + 1) = 1 := wrap_in (x := 0 + 1) (by omega) (by omega)
  have w2 : wrap64 (1 + 1) = 2 := wrap_in (x := 1 + 1) (by omega) (by omega)
  unfold cmp_Or_int.f
  simp only [cmp_Or_int.l0, List.length_cons, List.length_nil]
  rw [if_pos (by decide), if_pos (by decide), if_pos (by decide), r0, w1]
  by_cases h : x = 0
  · rw [if_pos h, if_pos h, if_pos (by decide), if_pos (by decide), if_pos (by decide), r1, w2]
    by_cases h2 : y = 0
    · rw [if_pos h2, if_neg (by decide), h2]
    · rw [if_neg h2]
  · rw [if_neg h, if_neg h]
theorem mul_eq {x y : Nat} (hx : x ≤ 9223372036854775807) (hy : y ≤ 9223372036854775807) : bits_Mul64.f (IntKind.u64.wrap (x : Int)) (IntKind.u64.wrap (y : Int)) = some (((x * y / 18446744073709551616 : Nat) : Int), ((x * y % 18446744073709551616 : Nat) : Int)) := by
  unfold bits_Mul64.f
  rw [wrapU_in (by omega) (by omega), wrapU_in (by omega) (by omega), if_pos ⟨⟨by omega, by omega⟩, by omega, by omega⟩, ← Int.natCast_mul]
  rfl
theorem Compare_eq {a b c d : Int} (ha : a ≤ 9223372036854775807) (hb' : b ≤ 9223372036854775807) (hc : c ≤ 9223372036854775807) (hd : d ≤ 9223372036854775807) {k : Nat} (hk : 4 ≤ k) :
    money_Compare.f k a b c d = some (Frac.cmpN (hn a b) (hb a b) (hn c d) (hb c d)) := by
  unfold money_Compare.f
  rw [held_eq, Option.bind_some, held_eq, Option.bind_some]
  simp only []
  rw [mul_eq (hn_le _ ha) (hb_le _ hd), Option.bind_some, mul_eq (hn_le _ hc) (hb_le _ hb'), Option.bind_some]
  simp only []
  rw [cmpU_eq, Option.bind_some, cmpU_eq, Option.bind_some, or_eq _ _ (by omega), Option.bind_some]
  unfold Frac.cmpN
  generalize hn a b * hb c d = X
  generalize hn c d * hb a b = Y
  congr 1
  have e1 := Nat.div_add_mod X 18446744073709551616
  have e2 := Nat.div_add_mod Y 18446744073709551616
  have l1 := Nat.mod_lt X (show 0 < 18446744073709551616 by omega)
  have l2 := Nat.mod_lt Y (show 0 < 18446744073709551616 by omega)
  generalize X / 18446744073709551616 = p at e1
  generalize Y / 18446744073709551616 = q at e2
  generalize X % 18446744073709551616 = r at e1 l1
  generalize Y % 18446744073709551616 = s at e2 l2
  by_cases h1 : p < q
  · rw [if_pos (show (p : Int) < (q : Int) by omega), if_neg (by omega), if_pos (by omega)]
  · rw [if_neg (show ¬ (p : Int) < (q : Int) by omega)]
    by_cases h2 : p > q
    · rw [if_pos (show (p : Int) > (q : Int) by omega), if_neg (by omega), if_neg (by omega), if_pos (by omega)]
    · rw [if_neg (show ¬ (p : Int) > (q : Int) by omega), if_pos rfl]
      by_cases h3 : r < s
      · rw [if_pos (show (r : Int) < (s : Int) by omega), if_pos (by omega)]
      · rw [if_neg (show ¬ (r : Int) < (s : Int) by omega)]
        by_cases h4 : r > s
        · rw [if_pos (show (r : Int) > (s : Int) by omega), if_neg (show ¬ X < Y by omega), if_pos (show Y < X by omega)]
        · rw [if_neg (show ¬ (r : Int) > (s : Int) by omega), if_neg (show ¬ X < Y by omega), if_neg (show ¬ Y < X by omega)]
end Go.Proofs.YtggjphcikcflkaaDoor.Pure

/- The law MoneyCompares in plain Lean: the document goes by whole parts, turned over; the program crosswise. -/
namespace Go.Proofs.YtggjphcikcflkaaDoor.Pure
open Go.RowKit Go.Proofs.YtggjphcikcflkaaDoor.P Go.Proofs.YtggjphcikcflkaaDoorW.PrintWords Go.Proofs.YtggjphcikcflkaaDoorW.PrintLast Go.Proofs.YtggjphcikcflkaaDoorW.PrintMore
theorem refRight_eq (a b : Int) : supercargoref01_Right.f a b = some (decide (0 ≤ a ∧ 1 ≤ b)) := by
  unfold supercargoref01_Right.f
  by_cases h : a ≥ 0
  · rw [if_pos h]
    congr 1
    by_cases h2 : b ≥ 1
    · rw [decide_eq_true h2, decide_eq_true (show 0 ≤ a ∧ 1 ≤ b from ⟨h, h2⟩)]
    · rw [decide_eq_false h2, decide_eq_false (show ¬ (0 ≤ a ∧ 1 ≤ b) from fun x => h2 x.2)]
  · rw [if_neg h, decide_eq_false (show ¬ (0 ≤ a ∧ 1 ≤ b) from fun x => h x.1)]
/-- How one stands to another: one of three. -/
theorem cmp_three (a b c d : Nat) : Frac.cmpN a b c d = -1 ∨ Frac.cmpN a b c d = 0 ∨ Frac.cmpN a b c d = 1 := by
  unfold Frac.cmpN
  split
  · left; rfl
  · split
    · right; right; rfl
    · right; left; rfl
theorem ref_l0 (n : Nat) : ∀ (a b c d k : Nat) (s : Int), b ≤ n → 0 < b → 0 < d → a ≤ 9223372036854775807 → b ≤ 9223372036854775807 → c ≤ 9223372036854775807 → d ≤ 9223372036854775807 → (s = 1 ∨ s = -1) → 2 * n + 2 ≤ k →
    supercargoref01_Compare.l0 k s (a : Int) (b : Int) (c : Int) (d : Int) = some (s * Frac.cmpN a b c d) := by
  induction n with
  | zero => intro a b c d k s hb h0; omega
  | succ n ih =>
    intro a b c d k s hbn hb hd ia ib ic id hs hk
    obtain ⟨k, rfl⟩ : ∃ j, k = j + 1 := ⟨k - 1, by omega⟩
    obtain ⟨k, rfl⟩ : ∃ j, k = j + 1 := ⟨k - 1, by omega⟩
    have c1 : Int.tdiv (a : Int) (b : Int) = ((a / b : Nat) : Int) := rfl
    have c2 : Int.tdiv (c : Int) (d : Int) = ((c / d : Nat) : Int) := rfl
    have c3 : Int.tmod (a : Int) (b : Int) = ((a % b : Nat) : Int) := rfl
    have c4 : Int.tmod (c : Int) (d : Int) = ((c % d : Nat) : Int) := rfl
    have l1 := Nat.div_le_self a b
    have l2 := Nat.div_le_self c d
    have l3 := Nat.mod_lt a hb
    have l4 := Nat.mod_lt c hd
    have n1 := Int.natCast_nonneg (a / b)
    have n2 := Int.natCast_nonneg (c / d)
    have sw : wrap64 (-s) = -s := wrap_in (by omega) (by omega)
    simp only [supercargoref01_Compare.l0]
    rw [if_neg (by omega), if_neg (by omega), c1, c2, c3, c4, wrap_in (x := ((a / b : Nat) : Int)) (by omega) (by omega), wrap_in (x := ((c / d : Nat) : Int)) (by omega) (by omega)]
    by_cases h1 : a / b < c / d
    · rw [if_pos (by omega), sw, Frac.whole_lt hb hd h1, Int.mul_neg_one]
    · rw [if_neg (by omega)]
      by_cases h2 : c / d < a / b
      · rw [if_pos (by omega), Frac.whole_gt hb hd h2, Int.mul_one]
      · rw [if_neg (by omega), Frac.cmpN_rest (show a / b = c / d by omega)]
        obtain ⟨p, hp⟩ : ∃ p, a % b = p := ⟨_, rfl⟩
        obtain ⟨q, hq⟩ : ∃ p, c % d = p := ⟨_, rfl⟩
        rw [hp] at l3
        rw [hq] at l4
        rw [hp, hq]
        by_cases hp0 : p = 0
        · subst hp0
          rw [if_pos (by omega)]
          simp only [supercargoref01_Compare.j3]
          by_cases hq0 : q = 0
          · subst hq0
            rw [if_pos (by simp), Frac.rest_zero, Int.mul_zero]
          · rw [if_neg (by simp; omega), if_pos (by omega), sw, Frac.rest_less hb (by omega), Int.mul_neg_one]
        · rw [if_neg (by omega)]
          simp only [supercargoref01_Compare.j3]
          rw [if_neg Bool.false_ne_true, if_neg (by omega)]
          by_cases hq0 : q = 0
          · subst hq0
            rw [if_pos (by omega), Frac.rest_more hd (by omega), Int.mul_one]
          · rw [if_neg (by omega), sw, ih b p d q k (-s) (by omega) (by omega) (by omega) (by omega) (by omega) (by omega) (by omega) (by omega) (by omega), Frac.turned (b := b) (d := d) (p := p) (q := q), Int.neg_mul, Int.mul_neg]
theorem refCompare_eq {a b c d : Int} (ha : a ≤ 9223372036854775807) (hb' : b ≤ 9223372036854775807) (hc : c ≤ 9223372036854775807) (hd : d ≤ 9223372036854775807) {k : Nat} (hk : 2 * b.natAbs + 20 ≤ k) :
    supercargoref01_Compare.f k a b c d = some (Frac.cmpN (hn a b) (hb a b) (hn c d) (hb c d)) := by
  obtain ⟨k, rfl⟩ : ∃ j, k = j + 1 := ⟨k - 1, by omega⟩
  obtain ⟨k, rfl⟩ : ∃ j, k = j + 1 := ⟨k - 1, by omega⟩
  have hbb : hb a b ≤ b.natAbs + 1 := by unfold hb; split <;> omega
  have L := ref_l0 (b.natAbs + 1) (hn a b) (hb a b) (hn c d) (hb c d) k 1 hbb (hb_pos a b) (hb_pos c d) (hn_le b ha) (hb_le a hb') (hn_le d hc) (hb_le c hd) (Or.inl rfl) (by omega)
  rw [Int.one_mul] at L
  rw [← L]
  have J : ∀ x y : Int, supercargoref01_Compare.j0 (k + 1 + 1) x y c d = supercargoref01_Compare.l0 k 1 x y (hn c d : Int) (hb c d : Int) := by
    intro x y
    simp only [supercargoref01_Compare.j0]
    rw [refRight_eq, Option.bind_some]
    unfold hn hb
    by_cases h : 0 ≤ c ∧ 1 ≤ d
    · rw [decide_eq_true h, if_pos rfl, if_pos h, if_pos h, Int.toNat_of_nonneg h.1, Int.toNat_of_nonneg (show 0 ≤ d by omega)]
      simp only [supercargoref01_Compare.j1]
    · rw [decide_eq_false h, if_neg Bool.false_ne_true, if_neg h, if_neg h]
      simp only [supercargoref01_Compare.j1]
      rfl
  unfold supercargoref01_Compare.f
  rw [refRight_eq, Option.bind_some]
  by_cases h : 0 ≤ a ∧ 1 ≤ b
  · rw [decide_eq_true h, if_pos rfl, J, show (hn a b : Int) = a by unfold hn; rw [if_pos h]; omega, show (hb a b : Int) = b by unfold hb; rw [if_pos h]; omega]
  · rw [decide_eq_false h, if_neg Bool.false_ne_true, J, show (hn a b : Int) = 0 by unfold hn; rw [if_neg h]; rfl, show (hb a b : Int) = 1 by unfold hb; rw [if_neg h]; rfl]
/-- By the greatest number that divides both. -/
theorem red_l0 {a b : Nat} (ia : a ≤ 9223372036854775807) (ib : b ≤ 9223372036854775807) (n : Nat) : ∀ (x y k : Nat), y ≤ n → 0 < x + y → n + 1 ≤ k →
    money_Reduce.l0 k (x : Int) (y : Int) (a : Int) (b : Int) = some (((a / Nat.gcd x y : Nat) : Int), ((b / Nat.gcd x y : Nat) : Int), true) ∧ supercargoref01_Reduce.l0 k (x : Int) (y : Int) (a : Int) (b : Int) = some (((a / Nat.gcd x y : Nat) : Int), ((b / Nat.gcd x y : Nat) : Int), true) := by
  have base : ∀ (x k : Nat), 0 < x → 1 ≤ k → money_Reduce.l0 k (x : Int) ((0 : Nat) : Int) (a : Int) (b : Int) = some (((a / x : Nat) : Int), ((b / x : Nat) : Int), true) ∧ supercargoref01_Reduce.l0 k (x : Int) ((0 : Nat) : Int) (a : Int) (b : Int) = some (((a / x : Nat) : Int), ((b / x : Nat) : Int), true) := by
    intro x k hx hk
    obtain ⟨k, rfl⟩ : ∃ j, k = j + 1 := ⟨k - 1, by omega⟩
    have c1 : Int.tdiv (a : Int) (x : Int) = ((a / x : Nat) : Int) := rfl
    have c2 : Int.tdiv (b : Int) (x : Int) = ((b / x : Nat) : Int) := rfl
    have l1 := Nat.div_le_self a x
    have l2 := Nat.div_le_self b x
    have n1 := Int.natCast_nonneg (a / x)
    have n2 := Int.natCast_nonneg (b / x)
    constructor
    · simp only [money_Reduce.l0]
      rw [if_neg (by omega), if_neg (by omega), c1, c2, wrap_in (x := ((a / x : Nat) : Int)) (by omega) (by omega), wrap_in (x := ((b / x : Nat) : Int)) (by omega) (by omega)]
    · simp only [supercargoref01_Reduce.l0]
      rw [if_neg (by omega), if_neg (by omega), c1, c2, wrap_in (x := ((a / x : Nat) : Int)) (by omega) (by omega), wrap_in (x := ((b / x : Nat) : Int)) (by omega) (by omega)]
  induction n with
  | zero =>
    intro x y k hy hx hk
    obtain rfl : y = 0 := by omega
    rw [Nat.gcd_zero_right]
    exact base x k (by omega) (by omega)
  | succ n ih =>
    intro x y k hy hx hk
    by_cases h0 : y = 0
    · subst h0
      rw [Nat.gcd_zero_right]
      exact base x k (by omega) (by omega)
    · obtain ⟨k, rfl⟩ : ∃ j, k = j + 1 := ⟨k - 1, by omega⟩
      have c3 : Int.tmod (x : Int) (y : Int) = ((x % y : Nat) : Int) := rfl
      have l3 := Nat.mod_lt x (show 0 < y by omega)
      have I := ih y (x % y) k (by omega) (by omega) (by omega)
      have G : Nat.gcd y (x % y) = Nat.gcd x y := by rw [Nat.gcd_comm y, ← Nat.gcd_rec, Nat.gcd_comm]
      rw [G] at I
      constructor
      · simp only [money_Reduce.l0]
        rw [if_pos (by omega), if_neg (by omega), c3]
        exact I.1
      · simp only [supercargoref01_Reduce.l0]
        rw [if_pos (by omega), if_neg (by omega), c3]
        exact I.2
theorem MoneyCompares (a b c d : Int) (wa : (Lit.int .i64 a).wf = true) (wb : (Lit.int .i64 b).wf = true) (wc : (Lit.int .i64 c).wf = true) (wd : (Lit.int .i64 d).wf = true) : ∃ k, supercargolaw01_MoneyCompares.f k a b c d = some true := by
  refine ⟨2 * b.natAbs + 40, ?_⟩
  have ia := (wf64 wa).2
  have ib := (wf64 wb).2
  have ic := (wf64 wc).2
  have id := (wf64 wd).2
  unfold supercargolaw01_MoneyCompares.f
  rw [Compare_eq ia ib ic id (by omega), Option.bind_some, refCompare_eq ia ib ic id (by omega), Option.bind_some, if_pos rfl, Compare_eq ic id ia ib (by omega), Option.bind_some]
  have three := cmp_three (hn a b) (hb a b) (hn c d) (hb c d)
  rw [wrap_in (x := -Frac.cmpN (hn a b) (hb a b) (hn c d) (hb c d)) (by omega) (by omega), Frac.back (hn a b) (hb a b) (hn c d) (hb c d)]
  rw [show (-Frac.cmpN (hn a b) (hb a b) (hn c d) (hb c d) != -Frac.cmpN (hn a b) (hb a b) (hn c d) (hb c d)) = false by simp]
  obtain ⟨k, hk⟩ : ∃ k, 2 * b.natAbs + 40 = k + 1 := ⟨2 * b.natAbs + 39, by omega⟩
  rw [hk]
  simp only [supercargolaw01_MoneyCompares.j0]
  rw [if_neg Bool.false_ne_true]
  unfold money_Reduce.f supercargoref01_Reduce.f
  rw [fraction_eq, Option.bind_some, refRight_eq, Option.bind_some]
  by_cases h : 0 ≤ a ∧ 1 ≤ b
  · rw [decide_eq_true h, if_pos rfl, if_pos rfl]
    obtain ⟨x, rfl⟩ := Int.eq_ofNat_of_zero_le h.1
    obtain ⟨y, rfl⟩ := Int.eq_ofNat_of_zero_le (show 0 ≤ b by omega)
    have R := red_l0 (a := x) (b := y) (by omega) (by omega) y x y k (Nat.le_refl _) (by omega) (by omega)
    rw [R.1, R.2, Option.bind_some, Option.bind_some]
    simp only []
    rw [if_pos (by simp), if_pos (by simp), if_pos trivial]
    have gp : 0 < Nat.gcd x y := Nat.gcd_pos_of_pos_right x (by omega)
    have dx := Nat.mul_div_cancel' (Nat.gcd_dvd_left x y)
    have dy := Nat.mul_div_cancel' (Nat.gcd_dvd_right x y)
    have l1 := Nat.div_le_self x (Nat.gcd x y)
    have l2 := Nat.div_le_self y (Nat.gcd x y)
    have yp : 0 < y / Nat.gcd x y := Nat.div_pos (Nat.gcd_le_right x (by omega)) gp
    rw [Compare_eq (by omega) (by omega) ic id (by omega), Option.bind_some]
    have e1 : hn (x : Int) (y : Int) = x := by unfold hn; rw [if_pos h]; rfl
    have e2 : hb (x : Int) (y : Int) = y := by unfold hb; rw [if_pos h]; rfl
    have e3 : hn ((x / Nat.gcd x y : Nat) : Int) ((y / Nat.gcd x y : Nat) : Int) = x / Nat.gcd x y := by unfold hn; rw [if_pos ⟨Int.natCast_nonneg _, by omega⟩]; rfl
    have e4 : hb ((x / Nat.gcd x y : Nat) : Int) ((y / Nat.gcd x y : Nat) : Int) = y / Nat.gcd x y := by unfold hb; rw [if_pos ⟨Int.natCast_nonneg _, by omega⟩]; rfl
    rw [e1, e2, e3, e4, if_pos (Frac.scaled gp dx.symm dy.symm), awake_eq (by omega), Option.bind_some]
  · rw [decide_eq_false h, if_neg Bool.false_ne_true, if_neg Bool.false_ne_true, Option.bind_some, Option.bind_some]
    simp only []
    rw [if_pos (by simp), if_pos (by simp), if_neg Bool.false_ne_true, awake_eq (by omega), Option.bind_some]
end Go.Proofs.YtggjphcikcflkaaDoor.Pure
