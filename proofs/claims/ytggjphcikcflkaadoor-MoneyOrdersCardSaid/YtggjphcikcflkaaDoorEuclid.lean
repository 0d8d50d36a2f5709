/- Fractions held against one another: crosswise, and by whole parts turned over: plain numbers. -/
namespace Frac

/-- Crosswise. -/
def cmpN (a b c d : Nat) : Int := if a * d < c * b then -1 else if c * b < a * d then 1 else 0

theorem cmpN_lt {a b c d : Nat} (h : a * d < c * b) : cmpN a b c d = -1 := by unfold cmpN; rw [if_pos h]
theorem cmpN_gt {a b c d : Nat} (h : c * b < a * d) : cmpN a b c d = 1 := by unfold cmpN; rw [if_neg (by omega), if_pos h]
theorem cmpN_eq {a b c d : Nat} (h : a * d = c * b) : cmpN a b c d = 0 := by unfold cmpN; rw [if_neg (by omega), if_neg (by omega)]

theorem whole_lt {a b c d : Nat} (hb : 0 < b) (hd : 0 < d) (h : a / b < c / d) : cmpN a b c d = -1 := by
  refine cmpN_lt ?_
  have h1 : a < (a / b + 1) * b := by have := Nat.div_add_mod a b; have := Nat.mod_lt a hb; rw [Nat.add_mul, Nat.one_mul, Nat.mul_comm]; omega
  have h2 : (a / b + 1) * b ≤ c / d * b := Nat.mul_le_mul_right b h
  have h3 : c / d * d ≤ c := Nat.div_mul_le_self c d
  have h4 : a * d < c / d * b * d := Nat.mul_lt_mul_of_lt_of_le (by omega) (Nat.le_refl d) hd
  have h5 : c / d * b * d ≤ c * b := by rw [Nat.mul_right_comm]; exact Nat.mul_le_mul_right b h3
  omega
theorem whole_gt {a b c d : Nat} (hb : 0 < b) (hd : 0 < d) (h : c / d < a / b) : cmpN a b c d = 1 := by
  have := whole_lt hd hb h
  refine cmpN_gt ?_
  unfold cmpN at this
  split at this
  · assumption
  · split at this <;> simp at this
theorem rest {a b c d : Nat} (h : a / b = c / d) : a * d < c * b ↔ a % b * d < c % d * b := by
  have h1 := Nat.div_add_mod a b
  have h2 := Nat.div_add_mod c d
  have e1 : a * d = c / d * b * d + a % b * d := by
    rw [← h, ← Nat.add_mul, Nat.mul_comm (a / b) b, h1]
  have e2 : c * b = c / d * b * d + c % d * b := by
    rw [Nat.mul_right_comm, ← Nat.add_mul, Nat.mul_comm (c / d) d, h2]
  omega
theorem cmpN_rest {a b c d : Nat} (h : a / b = c / d) : cmpN a b c d = cmpN (a % b) b (c % d) d := by
  unfold cmpN
  have r1 := rest h
  have r2 := rest h.symm
  simp only [r1, r2]
theorem rest_zero {b d : Nat} : cmpN 0 b 0 d = 0 := cmpN_eq (by simp)
theorem rest_less {b d q : Nat} (hb : 0 < b) (hq : 0 < q) : cmpN 0 b q d = -1 := cmpN_lt (by rw [Nat.zero_mul]; exact Nat.mul_pos hq hb)
theorem rest_more {b d p : Nat} (hd : 0 < d) (hp : 0 < p) : cmpN p b 0 d = 1 := cmpN_gt (by rw [Nat.zero_mul]; exact Nat.mul_pos hp hd)
/-- Turned over. -/
theorem turned {b d p q : Nat} : cmpN p b q d = - cmpN b p d q := by
  unfold cmpN
  rw [Nat.mul_comm b q, Nat.mul_comm d p]
  rcases Nat.lt_trichotomy (p * d) (q * b) with h | h | h
  · rw [if_pos h, if_neg (by omega), if_pos h]
  · rw [if_neg (by omega), if_neg (by omega), if_neg (by omega), if_neg (by omega)]; rfl
  · rw [if_neg (by omega), if_pos h, if_pos h]; rfl
theorem back (a b c d : Nat) : cmpN c d a b = - cmpN a b c d := by
  unfold cmpN
  rcases Nat.lt_trichotomy (a * d) (c * b) with h | h | h
  · rw [if_neg (by omega), if_pos h, if_pos h]; rfl
  · rw [if_neg (by omega), if_neg (by omega), if_neg (by omega), if_neg (by omega)]; rfl
  · rw [if_pos h, if_neg (by omega), if_pos h]
/-- As much: held against any. -/
theorem scaled {a b c d g x y : Nat} (hg : 0 < g) (ha : a = g * x) (hb : b = g * y) : cmpN x y c d = cmpN a b c d := by
  have e1 : a * d = g * (x * d) := by rw [ha, Nat.mul_assoc]
  have e2 : c * b = g * (c * y) := by rw [hb, Nat.mul_left_comm]
  unfold cmpN
  rw [e1, e2]
  simp only [Nat.mul_lt_mul_left hg]
theorem le_iff {a b c d : Nat} : cmpN a b c d ≤ 0 ↔ a * d ≤ c * b := by
  unfold cmpN
  split
  · constructor <;> intros <;> first | omega | decide
  · split
    · constructor
      · intro h; simp at h
      · intro h; omega
    · constructor <;> intros <;> first | omega | decide
theorem lt_iff {a b c d : Nat} : cmpN a b c d < 0 ↔ a * d < c * b := by
  unfold cmpN
  split
  · simp; assumption
  · split
    · simp; omega
    · simp; omega
theorem le_trans {a b c d e f : Nat} (hd : 0 < d) (h1 : a * d ≤ c * b) (h2 : c * f ≤ e * d) : a * f ≤ e * b := by
  have e1 : a * d * f ≤ c * b * f := Nat.mul_le_mul_right f h1
  have e2 : c * f * b ≤ e * d * b := Nat.mul_le_mul_right b h2
  have e3 : d * (a * f) ≤ d * (e * b) := by
    rw [Nat.mul_left_comm, ← Nat.mul_assoc] 
    calc a * d * f ≤ c * b * f := e1
      _ = c * f * b := Nat.mul_right_comm _ _ _
      _ ≤ e * d * b := e2
      _ = d * (e * b) := by rw [Nat.mul_comm e d, Nat.mul_assoc]
  exact Nat.le_of_mul_le_mul_left e3 hd
theorem lt_trans1 {a b c d e f : Nat} (hf : 0 < f) (h1 : a * d < c * b) (h2 : c * f ≤ e * d) : a * f < e * b := by
  have e1 : a * d * f < c * b * f := Nat.mul_lt_mul_of_pos_right h1 hf
  have e2 : c * f * b ≤ e * d * b := Nat.mul_le_mul_right b h2
  have e3 : d * (a * f) < d * (e * b) := by
    rw [Nat.mul_left_comm, ← Nat.mul_assoc]
    calc a * d * f < c * b * f := e1
      _ = c * f * b := Nat.mul_right_comm _ _ _
      _ ≤ e * d * b := e2
      _ = d * (e * b) := by rw [Nat.mul_comm e d, Nat.mul_assoc]
  exact Nat.lt_of_mul_lt_mul_left e3
theorem lt_trans2 {a b c d e f : Nat} (hb : 0 < b) (h1 : a * d ≤ c * b) (h2 : c * f < e * d) : a * f < e * b := by
  have e1 : a * d * f ≤ c * b * f := Nat.mul_le_mul_right f h1
  have e2 : c * f * b < e * d * b := Nat.mul_lt_mul_of_pos_right h2 hb
  have e3 : d * (a * f) < d * (e * b) := by
    rw [Nat.mul_left_comm, ← Nat.mul_assoc]
    calc a * d * f ≤ c * b * f := e1
      _ = c * f * b := Nat.mul_right_comm _ _ _
      _ < e * d * b := e2
      _ = d * (e * b) := by rw [Nat.mul_comm e d, Nat.mul_assoc]
  exact Nat.lt_of_mul_lt_mul_left e3
end Frac
