/- The law of the two parts: it says yes. -/
import Derived.Test.YtggjphcikcflkaaDoorPureScale
import Derived.Test.YtggjphcikcflkaaDoorPureMay
import Derived.Test.YtggjphcikcflkaaDoorPx23
namespace Go.Proofs.YtggjphcikcflkaaDoor.Pure
open Go.RowKit Go.Proofs.YtggjphcikcflkaaDoor.P Go.Proofs.YtggjphcikcflkaaDoorW.PrintWords Go.Proofs.YtggjphcikcflkaaDoorW.PrintLast Go.Proofs.YtggjphcikcflkaaDoorW.PrintMore
theorem q_down (n num den : Nat) : qR n num den 0 = n * num / den := by unfold qR upB; simp
theorem q_up (n num den : Nat) : qR n num den 1 = n * num / den + (if 0 < n * num % den then 1 else 0) := by unfold qR upB; simp
theorem wfu32 {n : Int} (h : (Lit.int .u32 n).wf = true) : 0 ≤ n ∧ n ≤ 4294967295 := by
  have := h
  simp only [Lit.wf, Bool.and_eq_true, decide_eq_true_eq] at this
  exact ⟨this.1, this.2⟩
/-- The two parts of an amount. -/
theorem two_parts {n a b d : Nat} (hd : 1 ≤ d) (h : a + b = d) :
    (n * a / d + n * b / d = n ∧ n * a % d = 0 ∧ n * b % d = 0) ∨ (n * a / d + n * b / d + 1 = n ∧ 0 < n * a % d ∧ 0 < n * b % d) := by
  have e : n * a + n * b = n * d := by rw [← Nat.mul_add, h]
  have e1 := Nat.div_add_mod (n * a) d
  have e2 := Nat.div_add_mod (n * b) d
  have l1 := Nat.mod_lt (n * a) (show 0 < d by omega)
  have l2 := Nat.mod_lt (n * b) (show 0 < d by omega)
  obtain ⟨q1, h1⟩ : ∃ q, n * a / d = q := ⟨_, rfl⟩
  obtain ⟨q2, h2⟩ : ∃ q, n * b / d = q := ⟨_, rfl⟩
  obtain ⟨r1, h3⟩ : ∃ q, n * a % d = q := ⟨_, rfl⟩
  obtain ⟨r2, h4⟩ : ∃ q, n * b % d = q := ⟨_, rfl⟩
  rw [h1, h3] at e1
  rw [h2, h4] at e2
  rw [h3] at l1
  rw [h4] at l2
  rw [h1, h2, h3, h4]
  have e3 : d * (q1 + q2) + (r1 + r2) = d * n := by rw [Nat.mul_add, Nat.mul_comm d n, ← e]; omega
  have hle : q1 + q2 ≤ n := Nat.le_of_mul_le_mul_left (show d * (q1 + q2) ≤ d * n by omega) (by omega)
  obtain ⟨t, ht⟩ : ∃ t, n = q1 + q2 + t := ⟨n - (q1 + q2), by omega⟩
  have e4 : r1 + r2 = d * t := by rw [ht, Nat.mul_add d (q1 + q2)] at e3; omega
  have ht2 : t < 2 := by
    apply Nat.lt_of_mul_lt_mul_left (a := d)
    omega
  have hc : t = 0 ∨ t = 1 := by omega
  rcases hc with h | h
  · left; rw [h, Nat.mul_zero] at e4; omega
  · right; rw [h, Nat.mul_one] at e4; omega
theorem MoneyParts (s : ByteArray) (n : Int) (x1 x2 : Int) (_ : (Lit.int .i64 n).wf = true) (ha : (Lit.int .u32 x1).wf = true) (hb : (Lit.int .u32 x2).wf = true) : ∃ k, supercargolaw01_MoneyParts.f k s n x1 x2 = some true := by
  refine ⟨40000000032, ?_⟩
  have h1 := wfu32 ha
  have h2 := wfu32 hb
  have no : supercargolaw01_MoneyParts.j0 40000000032 x1 x2 true s n = some true := by
    obtain ⟨k, hk⟩ : ∃ k, 40000000032 = k + 1 := ⟨40000000031, by omega⟩
    rw [hk]
    simp only [supercargolaw01_MoneyParts.j0]
    rw [if_pos trivial, awake_eq (by omega), Option.bind_some]
  unfold supercargolaw01_MoneyParts.f
  rw [refMay_eq _ _ (by omega), Option.bind_some]
  by_cases hm : may s n = true
  · rw [if_pos hm]
    by_cases hn : n < 0
    · rw [if_pos hn]; exact no
    · rw [if_neg hn]
      by_cases h12 : x1 > x2
      · rw [if_pos h12]; exact no
      · rw [if_neg h12]
        by_cases h0 : x2 = 0
        · rw [h0] at no ⊢; exact no
        · rw [show (x2 == 0) = false by simpa using h0]
          have hin := may_in hm
          obtain ⟨a, rfl⟩ := Int.eq_ofNat_of_zero_le h1.1
          obtain ⟨d, rfl⟩ := Int.eq_ofNat_of_zero_le h2.1
          obtain ⟨m, rfl⟩ := Int.eq_ofNat_of_zero_le (show 0 ≤ n by omega)
          obtain ⟨k, hk⟩ : ∃ k, 40000000032 = k + 1 := ⟨40000000031, by omega⟩
          obtain ⟨j, hj⟩ : ∃ j, k = j + 1 := ⟨k - 1, by omega⟩
          have J2 : supercargolaw01_MoneyParts.j2 j true = some true := by
            obtain ⟨i, hi⟩ : ∃ i, j = i + 1 := ⟨j - 1, by omega⟩
            rw [hi]; simp only [supercargolaw01_MoneyParts.j2]
          have T := two_parts (n := m) (a := a) (b := d - a) (d := d) (by omega) (by omega)
          have sgn : ∀ x : Nat, sg (m : Int) x = (x : Int) := by intro x; unfold sg; rw [if_neg (by omega)]
          have D : ∀ c : Nat, m * c / d ≤ 1099511627776 → scaleS s (m : Int) (c : Int) (d : Int) 0 = (s, ((m * c / d : Nat) : Int), true) := by
            intro c hc
            have e : qR (m : Int).natAbs (c : Int).toNat (d : Int).toNat (0 : Int).toNat = m * c / d := q_down m c d
            rw [scaleS_yes ⟨hm, by omega, by omega⟩ (by rw [e]; exact hc), e, sgn]
          have U : ∀ c : Nat, m * c / d + (if 0 < m * c % d then 1 else 0) ≤ 1099511627776 → scaleS s (m : Int) (c : Int) (d : Int) 1 = (s, ((m * c / d + (if 0 < m * c % d then 1 else 0) : Nat) : Int), true) := by
            intro c hc
            have e : qR (m : Int).natAbs (c : Int).toNat (d : Int).toNat (1 : Int).toNat = m * c / d + (if 0 < m * c % d then 1 else 0) := q_up m c d
            rw [scaleS_yes ⟨hm, by omega, by omega⟩ (by rw [e]; exact hc), e, sgn]
          have D1 := D a
          have D2 := D (d - a)
          have U1 := U a
          have U2 := U (d - a)
          clear D U
          have es : ((d : Int) - (a : Int)) % 4294967296 = ((d - a : Nat) : Int) := by omega
          rw [hk]
          simp only [supercargolaw01_MoneyParts.j0]
          rw [if_neg Bool.false_ne_true, es, wrap_in (x := (a : Int)) (by omega) (by omega), wrap_in (x := (d : Int)) (by omega) (by omega)]
          rw [Scale_eq (by omega) (by omega) (by omega), Option.bind_some, Scale_eq (by omega) (by omega) (by omega), Option.bind_some, Scale_eq (by omega) (by omega) (by omega), Option.bind_some, Scale_eq (by omega) (by omega) (by omega), Option.bind_some]
          obtain ⟨p, hp⟩ : ∃ p, m * a / d = p := ⟨_, rfl⟩
          obtain ⟨q, hq⟩ : ∃ p, m * (d - a) / d = p := ⟨_, rfl⟩
          obtain ⟨r, hr⟩ : ∃ p, m * a % d = p := ⟨_, rfl⟩
          obtain ⟨t, ht⟩ : ∃ p, m * (d - a) % d = p := ⟨_, rfl⟩
          rw [hp, hr] at U1
          rw [hq, ht] at U2
          rw [hp] at D1
          rw [hq] at D2
          rw [hp, hq, hr, ht] at T
          rcases T with ⟨T1, T2, T3⟩ | ⟨T1, T2, T3⟩
          · rw [if_neg (by omega), Nat.add_zero] at U1 U2
            rw [D1 (by omega), D2 (by omega), U1 (by omega), U2 (by omega)]
            simp only []
            rw [if_pos trivial, if_pos trivial, if_pos trivial, hj]
            simp only [supercargolaw01_MoneyParts.j1]
            rw [if_neg (by simp), wrap_in (x := (p : Int) + (q : Int)) (by omega) (by omega), wrap_in (x := (m : Int) - 1) (by omega) (by omega), wrap_in (x := (m : Int) + 1) (by omega) (by omega)]
            rw [if_pos (by omega), if_pos (by omega), if_pos (by omega), if_pos (by omega), if_pos (by simp), awake_eq (by omega), Option.bind_some]
            exact J2
          · rw [if_pos (by omega)] at U1 U2
            rw [D1 (by omega), D2 (by omega), U1 (by omega), U2 (by omega)]
            simp only []
            rw [if_pos trivial, if_pos trivial, if_pos trivial, hj]
            simp only [supercargolaw01_MoneyParts.j1]
            rw [if_neg (by simp), wrap_in (x := (p : Int) + (q : Int)) (by omega) (by omega), wrap_in (x := ((p + 1 : Nat) : Int) + ((q + 1 : Nat) : Int)) (by omega) (by omega), wrap_in (x := (m : Int) - 1) (by omega) (by omega), wrap_in (x := (m : Int) + 1) (by omega) (by omega)]
            rw [if_pos (by omega), if_pos (by omega), if_pos (by omega), if_pos (by omega), if_pos ?_, awake_eq (by omega), Option.bind_some]
            · exact J2
            · have b1 : ((p : Int) + (q : Int) == (m : Int)) = false := by simp only [beq_eq_false_iff_ne]; omega
              have b2 : (((p + 1 : Nat) : Int) + ((q + 1 : Nat) : Int) == (m : Int)) = false := by simp only [beq_eq_false_iff_ne]; omega
              rw [b1, b2]; rfl
  · rw [if_neg hm]; exact no
end Go.Proofs.YtggjphcikcflkaaDoor.Pure
