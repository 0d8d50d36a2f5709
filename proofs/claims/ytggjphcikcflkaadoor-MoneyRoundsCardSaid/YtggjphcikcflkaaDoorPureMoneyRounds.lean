/- The law of the roundings: it says yes. -/
import Derived.Test.YtggjphcikcflkaaDoorPureScale
import Derived.Test.YtggjphcikcflkaaDoorPureMay
import Derived.Test.YtggjphcikcflkaaDoorPx22
namespace Go.Proofs.YtggjphcikcflkaaDoor.Pure
open Go.RowKit Go.Proofs.YtggjphcikcflkaaDoor.P Go.Proofs.YtggjphcikcflkaaDoorW.PrintWords Go.Proofs.YtggjphcikcflkaaDoorW.PrintLast Go.Proofs.YtggjphcikcflkaaDoorW.PrintMore
theorem qR_down (n num den : Nat) : qR n num den 0 = n * num / den := by unfold qR upB; simp
theorem qR_up (n num den : Nat) : qR n num den 1 = n * num / den + (if 0 < n * num % den then 1 else 0) := by unfold qR upB; simp
theorem qR_near {n num den : Nat} (hd : 1 ≤ den) : (qR n num den 2 = n * num / den ∨ qR n num den 2 = qR n num den 1) := by
  rw [qR_up]
  unfold qR upB
  by_cases h : den - n * num % den ≤ n * num % den
  · right
    rw [if_pos (by simp [h]), if_pos (by omega)]
  · left
    rw [if_neg (by simp; omega), Nat.add_zero]
theorem rounds_j2 {s : ByteArray} {n : Int} {a b : Int} {d m : Nat} {y z : ByteArray} (hn : 0 ≤ n) (hok : okS s n a b 0) (ha : a ≤ 9223372036854775807) (hb : b ≤ 9223372036854775807)
    (h0 : n = 0 → d = 0 ∧ m = 0) (hd : qR n.natAbs a.toNat b.toNat 0 = d) (hm : qR n.natAbs a.toNat b.toNat 2 = m) (hd0 : d ≤ 1099511627776) (hm0 : m ≤ 1099511627776) {k : Nat} (hk : 40000000009 ≤ k) :
    supercargolaw01_MoneyRounds.j2 k false s n a b y (d : Int) z (m : Int) = some true := by
  obtain ⟨k, rfl⟩ : ∃ j, k = j + 1 := ⟨k - 1, by omega⟩
  obtain ⟨k, rfl⟩ : ∃ j, k = j + 1 := ⟨k - 1, by omega⟩
  have hin := may_in hok.1
  have hmay : may s (-n) = true := may_mk (may_cur hok.1) (by omega) (by omega)
  have na : (-n).natAbs = n.natAbs := Int.natAbs_neg n
  have e0 : scaleS s (-n) a b 0 = (s, sg (-n) d, true) := by
    rw [scaleS_yes ⟨hmay, hok.2.1, by omega⟩ (by rw [na]; exact Nat.le_trans (Nat.le_of_eq hd) hd0), na]
    exact congrArg (fun x => (s, sg (-n) x, true)) hd
  have e2 : scaleS s (-n) a b 2 = (s, sg (-n) m, true) := by
    rw [scaleS_yes ⟨hmay, hok.2.1, by omega⟩ (by rw [na]; exact Nat.le_trans (Nat.le_of_eq hm) hm0), na]
    exact congrArg (fun x => (s, sg (-n) x, true)) hm
  have sgn : ∀ x : Nat, (n = 0 → x = 0) → x ≤ 1099511627776 → sg (-n) x = wrap64 (-(x : Int)) := by
    intro x hx hx2
    rw [wrap_in (by omega) (by omega)]
    unfold sg
    by_cases h : n = 0
    · rw [if_neg (by omega), hx h]; rfl
    · rw [if_pos (by omega)]
  simp only [supercargolaw01_MoneyRounds.j2]
  rw [if_neg Bool.false_ne_true, wrap_in (x := -n) (by omega) (by omega), Scale_eq ha hb (by omega), Option.bind_some, Scale_eq ha hb (by omega), Option.bind_some, e0, e2]
  simp only []
  rw [if_pos trivial, if_pos trivial, if_pos (sgn d (fun h => (h0 h).1) hd0), if_pos (sgn m (fun h => (h0 h).2) hm0), awake_eq (by omega), Option.bind_some]
  simp only [supercargolaw01_MoneyRounds.j3]
theorem rounds_j0 {s : ByteArray} {n : Int} {a b : Int} (hm : may s n = true) (hn : 0 ≤ n) (ha : a ≤ 9223372036854775807) (hb : b ≤ 9223372036854775807) {k : Nat} (hk : 40000000020 ≤ k) :
    supercargolaw01_MoneyRounds.j0 k false s n a b = some true := by
  obtain ⟨k, rfl⟩ : ∃ j, k = j + 1 := ⟨k - 1, by omega⟩
  obtain ⟨j, hj⟩ : ∃ j, k = j + 1 := ⟨k - 1, by omega⟩
  have J1 : supercargolaw01_MoneyRounds.j1 k true = some true := by rw [hj]; simp only [supercargolaw01_MoneyRounds.j1]
  have hin := may_in hm
  simp only [supercargolaw01_MoneyRounds.j0]
  rw [if_neg Bool.false_ne_true, Scale_eq ha hb (by omega), Option.bind_some, Scale_eq ha hb (by omega), Option.bind_some, Scale_eq ha hb (by omega), Option.bind_some, awake_eq (k := k) (by omega)]
  by_cases hf : 0 ≤ a ∧ 1 ≤ b
  · have ok : ∀ w : Int, 0 ≤ w ∧ w ≤ 2 → okS s n a b w := fun w hw => ⟨hm, hf, hw⟩
    have Q1 := qR_down n.natAbs a.toNat b.toNat
    have Q2 := qR_up n.natAbs a.toNat b.toNat
    have Q3 := qR_near (n := n.natAbs) (num := a.toNat) (den := b.toNat) (by omega)
    rw [← Q1] at Q3
    have Q4 : n = 0 → qR n.natAbs a.toNat b.toNat 0 = 0 ∧ qR n.natAbs a.toNat b.toNat 2 = 0 := by
      intro h
      have hz : n.natAbs = 0 := by omega
      have hu : qR n.natAbs a.toNat b.toNat 1 = 0 := by rw [Q2, hz, Nat.zero_mul, Nat.zero_div, Nat.zero_mod, if_neg (by omega)]
      have hd : qR n.natAbs a.toNat b.toNat 0 = 0 := by rw [Q1, hz, Nat.zero_mul, Nat.zero_div]
      exact ⟨hd, by omega⟩
    have Q5 : qR n.natAbs a.toNat b.toNat 1 = qR n.natAbs a.toNat b.toNat 0 ∨ qR n.natAbs a.toNat b.toNat 1 = qR n.natAbs a.toNat b.toNat 0 + 1 := by
      rw [Q2, Q1]; split
      · right; rfl
      · left; rfl
    have sgn : ∀ x : Nat, sg n x = (x : Int) := by intro x; unfold sg; rw [if_neg (by omega)]
    obtain ⟨d, hd⟩ : ∃ d, qR n.natAbs a.toNat b.toNat 0 = d := ⟨_, rfl⟩
    obtain ⟨u, hu⟩ : ∃ u, qR n.natAbs a.toNat b.toNat 1 = u := ⟨_, rfl⟩
    obtain ⟨m, hme⟩ : ∃ m, qR n.natAbs a.toNat b.toNat 2 = m := ⟨_, rfl⟩
    have yes : ∀ (w : Int) (v x : Nat), 0 ≤ w ∧ w ≤ 2 → w.toNat = v → qR n.natAbs a.toNat b.toNat v = x → x ≤ 1099511627776 → scaleS s n a b w = (s, (x : Int), true) := by
      intro w v x hw hv hx hx2
      subst hv
      rw [scaleS_yes (ok w hw) (by rw [hx]; exact hx2), hx, sgn]
    have noo : ∀ (w : Int) (v x : Nat), w.toNat = v → qR n.natAbs a.toNat b.toNat v = x → ¬ x ≤ 1099511627776 → scaleS s n a b w = (strD [], 0, false) := by
      intro w v x hv hx hx2
      subst hv
      exact scaleS_no (fun h => hx2 (by rw [← hx]; exact h.2))
    have Y0 := yes 0 0 d (by omega) rfl hd
    have Y1 := yes 1 1 u (by omega) rfl hu
    have Y2 := yes 2 2 m (by omega) rfl hme
    have N0 := noo 0 0 d rfl hd
    have N1 := noo 1 1 u rfl hu
    have N2 := noo 2 2 m rfl hme
    rw [hd, hme] at Q4
    rw [hd, hu, hme] at Q3
    rw [hd, hu] at Q5
    by_cases bu : u ≤ 1099511627776
    · rw [Y1 bu, Y0 (by omega), Y2 (by omega)]
      simp only []
      rw [if_pos trivial, if_pos trivial, if_pos trivial, if_neg (by omega), if_neg (by rw [wrap_in (by omega) (by omega)]; omega)]
      have J2 := rounds_j2 (s := s) (n := n) (a := a) (b := b) (d := d) (m := m) (y := s) (z := s) hn (ok 0 (by omega)) ha hb Q4 hd hme (by omega) (by omega) (k := k) (by omega)
      by_cases hq : m = d
      · rw [if_neg (by simp [hq])]
        exact J2
      · have hq2 : m = u := by omega
        rw [if_pos (by simp; omega), hq2]
        rw [hq2] at J2
        simp only [beq_self_eq_true, Bool.not_true, Bool.or_self]
        exact J2
    · rw [N1 bu]
      simp only []
      rw [if_neg Bool.false_ne_true]
      by_cases bd : d ≤ 1099511627776
      · rw [Y0 bd]
        simp only []
        rw [if_pos trivial, if_pos (show (d : Int) = 1099511627776 by omega)]
        by_cases bm : m ≤ 1099511627776
        · rw [Y2 bm]
          simp only []
          rw [if_pos trivial, if_pos (by rw [show m = d by omega]; simp), Option.bind_some]
          exact J1
        · rw [N2 bm]
          simp only []
          rw [if_neg Bool.false_ne_true, Option.bind_some]
          exact J1
      · rw [N0 bd, N2 (by omega)]
        simp only []
        rw [if_neg Bool.false_ne_true, if_neg Bool.false_ne_true, Option.bind_some]
        exact J1
  · have no : ∀ w : Int, scaleS s n a b w = (strD [], 0, false) := fun w => scaleS_no (fun h => hf h.1.2.1)
    rw [no, no, no]
    simp only []
    rw [if_neg Bool.false_ne_true, if_neg Bool.false_ne_true, if_neg Bool.false_ne_true, Option.bind_some]
    exact J1
theorem MoneyRounds (s : ByteArray) (n : Int) (a b : Int) (_ : (Lit.int .i64 n).wf = true) (ha : (Lit.int .i64 a).wf = true) (hb : (Lit.int .i64 b).wf = true) : ∃ k, supercargolaw01_MoneyRounds.f k s n a b = some true := by
  refine ⟨40000000030, ?_⟩
  have h1 := wf64 ha
  have h2 := wf64 hb
  have no : supercargolaw01_MoneyRounds.j0 40000000030 true s n a b = some true := by
    obtain ⟨k, hk⟩ : ∃ k, 40000000030 = k + 1 := ⟨40000000029, by omega⟩
    rw [hk]
    simp only [supercargolaw01_MoneyRounds.j0]
    rw [if_pos trivial, awake_eq (by omega), Option.bind_some]
  unfold supercargolaw01_MoneyRounds.f
  rw [refMay_eq _ _ (by omega), Option.bind_some]
  by_cases hm : may s n = true
  · rw [if_pos hm]
    by_cases hn : n < 0
    · rw [decide_eq_true hn]; exact no
    · rw [decide_eq_false hn]
      exact rounds_j0 hm (by omega) h1.2 h2.2 (by omega)
  · rw [if_neg hm]; exact no
end Go.Proofs.YtggjphcikcflkaaDoor.Pure
