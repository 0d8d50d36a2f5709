import Derived.Test.YtggjphcikcflkaaDoorPureScale
import Derived.Test.YtggjphcikcflkaaDoorPx20
import Derived.Lib.RabinKarpLaws
import Derived.Test.YtggjphcikcflkaaDoorPureMay
import Derived.Test.YtggjphcikcflkaaDoorPx21
/- An amount taken by a fraction, as the document says it, in plain Lean: bit by bit. -/
namespace Go.Proofs.YtggjphcikcflkaaDoor.Pure
open Go.RowKit Go.Proofs.YtggjphcikcflkaaDoor.P Go.Proofs.YtggjphcikcflkaaDoorW.PrintWords Go.Proofs.YtggjphcikcflkaaDoorW.PrintLast Go.Proofs.YtggjphcikcflkaaDoorW.PrintMore
/-- The whole parts and what is left, or too much. -/
def partsR (N den : Nat) : Int × Int := if N / den ≤ 2199023255552 then (((N / den : Nat) : Int), ((N % den : Nat) : Int)) else (-1, 0)
theorem rep_unique {q r M den : Nat} (h : q * den + r = M) (hr : r < den) : M / den = q ∧ M % den = r := by
  subst h
  refine ⟨?_, ?_⟩
  · rw [Nat.mul_comm, Nat.mul_add_div (by omega), Nat.div_eq_of_lt hr, Nat.add_zero]
  · rw [Nat.mul_comm, Nat.mul_add_mod, Nat.mod_eq_of_lt hr]
theorem bit_eq {n d : Nat} (hn : n ≤ 1099511627776) (hd : d ≤ 40) : Go.bits .and .i64 (shr .i64 (n : Int) (d : Int)) 1 = ((n / 2 ^ d % 2 : Nat) : Int) := by
  have e : shr .i64 (n : Int) (d : Int) = ((n / 2 ^ d : Nat) : Int) := by
    unfold shr
    have e3 : min ((d : Int).toNat) IntKind.i64.bits = d := by
      rw [Int.toNat_natCast]
      exact Nat.min_eq_left (show d ≤ 64 by omega)
    rw [e3]
    rfl
  rw [e]
  exact Go.Proofs.and_one _ (by have := Nat.div_le_self n (2 ^ d); omega)
theorem parts_l0 {n num den : Nat} (hn : n ≤ 1099511627776) (hnum : num < 9223372036854775808) (hd1 : 1 ≤ den) (hden : den < 9223372036854775808) (d : Nat) :
    ∀ (i q r k : Nat), i + d = 41 → q * den + r = n / 2 ^ d * num → r < den → q ≤ 2199023255552 → 2 * d + 1 ≤ k →
      supercargoref01_Parts.l0 k (n : Int) (num : Int) (den : Int) (q : Int) (r : Int) (i : Int) = some (partsR (n * num) den) := by
  induction d with
  | zero =>
    intro i q r k hi hM hr hq hk
    obtain ⟨k, rfl⟩ : ∃ j, k = j + 1 := ⟨k - 1, by omega⟩
    rw [Nat.pow_zero, Nat.div_one] at hM
    obtain ⟨e1, e2⟩ := rep_unique hM hr
    simp only [supercargoref01_Parts.l0]
    rw [if_neg (by omega)]
    unfold partsR
    rw [e1, e2, if_pos hq, wrap_in (by omega) (by omega)]
  | succ d ih =>
    intro i q r k hi hM hr hq hk
    obtain ⟨k, rfl⟩ : ∃ j, k = j + 1 := ⟨k - 1, by omega⟩
    obtain ⟨k, rfl⟩ : ∃ j, k = j + 1 := ⟨k - 1, by omega⟩
    have hhalf : n / 2 ^ (d + 1) = n / 2 ^ d / 2 := by rw [Nat.pow_succ, Nat.div_div_eq_div_mul]
    have hmn := Nat.div_le_self n (2 ^ d)
    have hMn : n / 2 ^ d * num ≤ n * num := Nat.mul_le_mul_right num hmn
    have ed : wrap64 (40 - (i : Int)) = (d : Int) := by rw [wrap_in (by omega) (by omega)]; omega
    have hbit := bit_eq hn (show d ≤ 40 by omega)
    rw [hhalf] at hM
    obtain ⟨m, hm⟩ : ∃ m, n / 2 ^ d = m := ⟨_, rfl⟩
    rw [hm] at hM hMn hbit hmn
    -- too much already
    have big : 2199023255552 < m * num / den → partsR (n * num) den = (-1, 0) := by
      intro h
      unfold partsR
      rw [if_neg]
      have := Nat.div_le_div_right (c := den) hMn
      omega
    -- behind the doubling
    have rest : ∀ (Q R : Nat), Q * den + R = 2 * (m / 2 * num) → R < den → Q ≤ 4398046511105 →
        supercargoref01_Parts.j1 (k + 1) (n : Int) (num : Int) (den : Int) (Q : Int) (R : Int) (i : Int) = some (partsR (n * num) den) := by
      intro Q R hQ hR hQb
      simp only [supercargoref01_Parts.j1]
      rw [ed, wu d (by omega), if_pos (by omega), hbit]
      have goon : ∀ (Q' R' : Nat), Q' * den + R' = m * num → R' < den → Q' ≤ 9000000000000000000 → (if (Q' : Int) > 2199023255552 then (some ((-1 : Int), (0 : Int))) else supercargoref01_Parts.l0 k (n : Int) (num : Int) (den : Int) (Q' : Int) (R' : Int) (wrap64 ((i : Int) + 1))) = some (partsR (n * num) den) := by
        intro Q' R' h1 h2 h3
        by_cases hb : 2199023255552 < Q'
        · rw [if_pos (by omega), big (by rw [(rep_unique h1 h2).1]; exact hb)]
        · rw [if_neg (by omega), wrap_next (by omega)]
          exact ih (i + 1) Q' R' k (by omega) (by rw [hm]; exact h1) h2 (by omega) (by omega)
      by_cases hb1 : m % 2 = 1
      · rw [if_pos (by omega), if_neg (by omega)]
        have hm2 : m = 2 * (m / 2) + 1 := by omega
        have e0 : m * num = 2 * (m / 2 * num) + num := by
          have : m * num = (2 * (m / 2) + 1) * num := by rw [← hm2]
          rw [this, Nat.add_mul, Nat.one_mul, Nat.mul_assoc]
        have en := Nat.div_add_mod num den
        have hnr := Nat.mod_lt num (show 0 < den by omega)
        have hnq := Nat.div_le_self num den
        have c1 : Int.tdiv (num : Int) (den : Int) = ((num / den : Nat) : Int) := rfl
        have c2 : Int.tmod (num : Int) (den : Int) = ((num % den : Nat) : Int) := rfl
        have hge : num / den ≤ m * num / den := Nat.div_le_div_right (by rw [e0]; omega)
        rw [c1, c2]
        rw [Nat.mul_comm den] at en
        obtain ⟨a, ha⟩ : ∃ a, num / den = a := ⟨_, rfl⟩
        obtain ⟨b, hb⟩ : ∃ b, num % den = b := ⟨_, rfl⟩
        rw [ha] at en hnq hge
        rw [hb] at en hnr
        rw [ha, hb, wrap_in (x := (a : Int)) (by omega) (by omega)]
        by_cases hbig : 2199023255552 < a
        · rw [if_pos (by omega), big (by omega)]
        · rw [if_neg (by omega), wu b (by omega), wrapU_in (x := (R : Int) + (b : Int)) (by omega) (by omega), wu den (by omega), wrap_in (x := (Q : Int) + (a : Int)) (by omega) (by omega)]
          have sumE : (Q + a) * den + (R + b) = m * num := by rw [e0, Nat.add_mul]; omega
          by_cases hov : den ≤ R + b
          · rw [if_pos (by omega), wrap_in (x := (Q : Int) + (a : Int) + 1) (by omega) (by omega), wrapU_in (x := (R : Int) + (b : Int) - (den : Int)) (by omega) (by omega)]
            have := goon (Q + a + 1) (R + b - den) (by rw [Nat.add_mul (Q + a), Nat.one_mul]; omega) (by omega) (by omega)
            rw [show ((Q + a + 1 : Nat) : Int) = (Q : Int) + (a : Int) + 1 by omega, show ((R + b - den : Nat) : Int) = (R : Int) + (b : Int) - (den : Int) by omega] at this
            exact this
          · rw [if_neg (by omega)]
            have := goon (Q + a) (R + b) sumE (by omega) (by omega)
            rw [show ((Q + a : Nat) : Int) = (Q : Int) + (a : Int) by omega, show ((R + b : Nat) : Int) = (R : Int) + (b : Int) by omega] at this
            exact this
      · rw [if_neg (by omega)]
        have hm2 : m = 2 * (m / 2) := by omega
        have e0 : m * num = 2 * (m / 2 * num) := by
          have : m * num = (2 * (m / 2)) * num := by rw [← hm2]
          rw [this, Nat.mul_assoc]
        exact goon Q R (by rw [e0]; exact hQ) hR (by omega)
    simp only [supercargoref01_Parts.l0]
    rw [if_pos (by omega), wrapU_in (x := 2 * (r : Int)) (by omega) (by omega), wu den (by omega), wrap_in (x := 2 * (q : Int)) (by omega) (by omega)]
    by_cases hov : den ≤ 2 * r
    · rw [if_pos (by omega), wrap_in (x := 2 * (q : Int) + 1) (by omega) (by omega), wrapU_in (x := 2 * (r : Int) - (den : Int)) (by omega) (by omega)]
      have := rest (2 * q + 1) (2 * r - den) (by rw [Nat.add_mul, Nat.one_mul, Nat.mul_assoc]; omega) (by omega) (by omega)
      rw [show ((2 * q + 1 : Nat) : Int) = 2 * (q : Int) + 1 by omega, show ((2 * r - den : Nat) : Int) = 2 * (r : Int) - (den : Int) by omega] at this
      exact this
    · rw [if_neg (by omega)]
      have := rest (2 * q) (2 * r) (by rw [Nat.mul_assoc]; omega) (by omega) (by omega)
      rw [show ((2 * q : Nat) : Int) = 2 * (q : Int) by omega, show ((2 * r : Nat) : Int) = 2 * (r : Int) by omega] at this
      exact this
theorem Parts_eq {n num den : Nat} (hn : n ≤ 1099511627776) (hnum : num < 9223372036854775808) (hd1 : 1 ≤ den) (hden : den < 9223372036854775808) {k : Nat} (hk : 100 ≤ k) :
    supercargoref01_Parts.f k (n : Int) (num : Int) (den : Int) = some (partsR (n * num) den) := by
  unfold supercargoref01_Parts.f
  have h0 : n / 2 ^ 41 = 0 := Nat.div_eq_of_lt (by omega)
  exact parts_l0 hn hnum hd1 hden 41 0 0 0 k (by omega) (by rw [h0]; omega) (by omega) (by omega) (by omega)
end Go.Proofs.YtggjphcikcflkaaDoor.Pure

/- The document's taking of a part is the program's. -/
namespace Go.Proofs.YtggjphcikcflkaaDoor.Pure
open Go.RowKit Go.Proofs.YtggjphcikcflkaaDoor.P Go.Proofs.YtggjphcikcflkaaDoorW.PrintWords Go.Proofs.YtggjphcikcflkaaDoorW.PrintLast Go.Proofs.YtggjphcikcflkaaDoorW.PrintMore
theorem refRight_eq (a b : Int) : supercargoref01_Right.f a b = some (decide (0 ≤ a ∧ 1 ≤ b)) := by
  unfold supercargoref01_Right.f
  by_cases h : a ≥ 0
  · rw [if_pos h]
    congr 1
    by_cases h2 : b ≥ 1
    · rw [decide_eq_true h2, decide_eq_true (show 0 ≤ a ∧ 1 ≤ b from ⟨h, h2⟩)]
    · rw [decide_eq_false h2, decide_eq_false (show ¬ (0 ≤ a ∧ 1 ≤ b) from fun x => h2 x.2)]
  · rw [if_neg h, decide_eq_false (show ¬ (0 ≤ a ∧ 1 ≤ b) from fun x => h x.1)]
theorem within_iff {n : Int} : within n = true ↔ -1099511627776 ≤ n ∧ n ≤ 1099511627776 := by
  unfold within; simp
theorem ref_j3 {s : ByteArray} {n : Int} {q : Nat} (hc : cur s = true) (hq : q ≤ 4398046511104) {k : Nat} (hk : 5 ≤ k) :
    supercargoref01_Scale.j3 k (q : Int) s n = if q ≤ 1099511627776 then some (s, sg n q, true) else some (strD [], 0, false) := by
  obtain ⟨k, rfl⟩ : ∃ j, k = j + 1 := ⟨k - 1, by omega⟩
  simp only [supercargoref01_Scale.j3]
  have m : ∀ x : Int, may s x = within x := by intro x; unfold may; rw [hc, Bool.true_and]
  unfold sg
  by_cases hn : n < 0
  · rw [if_pos hn, if_pos hn, refMay_eq _ _ (by omega), Option.bind_some, wrap_in (by omega) (by omega), m]
    by_cases h : q ≤ 1099511627776
    · rw [if_pos (within_iff.mpr (by omega)), if_pos h]
    · rw [if_neg (fun x => h (by have := within_iff.mp x; omega)), if_neg h]; rfl
  · rw [if_neg hn, if_neg hn, refMay_eq _ _ (by omega), Option.bind_some, m]
    by_cases h : q ≤ 1099511627776
    · rw [if_pos (within_iff.mpr (by omega)), if_pos h]
    · rw [if_neg (fun x => h (by have := within_iff.mp x; omega)), if_neg h]; rfl
theorem ref_j2 {s : ByteArray} {n : Int} {q : Nat} {b : Bool} (hc : cur s = true) (hq : q ≤ 2199023255552) {k : Nat} (hk : 6 ≤ k) :
    supercargoref01_Scale.j2 k (q : Int) b s n = if q + (if b = true then 1 else 0) ≤ 1099511627776 then some (s, sg n (q + (if b = true then 1 else 0)), true) else some (strD [], 0, false) := by
  obtain ⟨k, rfl⟩ : ∃ j, k = j + 1 := ⟨k - 1, by omega⟩
  simp only [supercargoref01_Scale.j2]
  cases b with
  | true =>
    rw [if_pos rfl, if_pos rfl, wrap_in (by omega) (by omega)]
    have J := ref_j3 (s := s) (n := n) (q := q + 1) hc (by omega) (k := k) (by omega)
    rw [← J, show ((q + 1 : Nat) : Int) = (q : Int) + 1 by omega]
  | false =>
    rw [if_neg Bool.false_ne_true, if_neg Bool.false_ne_true, Nat.add_zero]
    exact ref_j3 hc (by omega) (by omega)
theorem ref_up {way l den : Nat} (hw : way ≤ 2) (hl : l < den) (hd : den < 9223372036854775808) (F : Bool → Option (ByteArray × Int × Bool)) :
    (if (l : Int) > 0 then (if (way : Int) = 1 then F true else (if (way : Int) = 2 then F (decide ((IntKind.u64.wrap (l : Int)) ≥ (IntKind.u64.wrap ((IntKind.u64.wrap (den : Int)) - (IntKind.u64.wrap (l : Int)))))) else F false)) else (if (way : Int) = 2 then F (decide ((IntKind.u64.wrap (l : Int)) ≥ (IntKind.u64.wrap ((IntKind.u64.wrap (den : Int)) - (IntKind.u64.wrap (l : Int)))))) else F false)) = F (upB way l den) := by
  rw [wu l (by omega), wu den (by omega), wrapU_in (by omega) (by omega)]
  have hx : decide ((l : Int) ≥ (den : Int) - (l : Int)) = decide (den - l ≤ l) := by
    by_cases h : den - l ≤ l
    · rw [decide_eq_true h, decide_eq_true (by omega)]
    · rw [decide_eq_false h, decide_eq_false (by omega)]
  rw [hx]
  unfold upB
  have hcase : way = 0 ∨ way = 1 ∨ way = 2 := by omega
  by_cases h0 : 0 < l
  · rw [if_pos (show (l : Int) > 0 by omega), decide_eq_true h0]
    rcases hcase with h | h | h
    · subst h; rfl
    · subst h; rfl
    · subst h; rfl
  · rw [if_neg (show ¬ (l : Int) > 0 by omega), decide_eq_false h0]
    rcases hcase with h | h | h
    · subst h; rfl
    · subst h; rfl
    · subst h; rfl
theorem ref_j1 {s : ByteArray} {n : Int} {m num den way : Nat} (hc : cur s = true) (hm : m ≤ 1099511627776) (hnum : num < 9223372036854775808) (hd1 : 1 ≤ den) (hd : den < 9223372036854775808) (hw : way ≤ 2) {k : Nat} (hk : 200 ≤ k) :
    supercargoref01_Scale.j1 k (way : Int) (m : Int) s n (num : Int) (den : Int) = if qR m num den way ≤ 1099511627776 then some (s, sg n (qR m num den way), true) else some (strD [], 0, false) := by
  obtain ⟨k, rfl⟩ : ∃ j, k = j + 1 := ⟨k - 1, by omega⟩
  simp only [supercargoref01_Scale.j1]
  rw [Parts_eq hm hnum hd1 hd (by omega), Option.bind_some]
  unfold partsR qR
  by_cases hb : m * num / den ≤ 2199023255552
  · rw [if_pos hb]
    simp only []
    rw [if_neg (Int.not_lt.mpr (Int.natCast_nonneg _))]
    have hl : m * num % den < den := Nat.mod_lt _ (by omega)
    refine (ref_up hw hl hd (fun b => supercargoref01_Scale.j2 k ((m * num / den : Nat) : Int) b s n)).trans ?_
    exact ref_j2 hc hb (by omega)
  · rw [if_neg hb]
    simp only []
    rw [if_pos (by omega), if_neg (by omega)]; rfl
theorem refScale_eq {s : ByteArray} {n num den way : Int} (hnum : num ≤ 9223372036854775807) (hd : den ≤ 9223372036854775807) {k : Nat} (hk : 300 ≤ k) : supercargoref01_Scale.f k s n num den way = some (scaleS s n num den way) := by
  unfold supercargoref01_Scale.f
  rw [refMay_eq _ _ (by omega), Option.bind_some]
  have no : supercargoref01_Scale.j0 k way true s n num den = some (strD [], 0, false) := by
    obtain ⟨k, rfl⟩ : ∃ j, k = j + 1 := ⟨k - 1, by omega⟩
    simp only [supercargoref01_Scale.j0]
    rw [if_pos trivial]; rfl
  by_cases hm : may s n = true
  · rw [if_pos hm, refRight_eq, Option.bind_some]
    by_cases hf : 0 ≤ num ∧ 1 ≤ den
    · rw [decide_eq_true hf, if_pos rfl]
      by_cases hw0 : way < 0
      · rw [if_pos hw0, scaleS_no (fun h => by have := h.1.2.2.1; omega)]
        exact no
      · rw [if_neg hw0]
        by_cases hw2 : way > 2
        · rw [decide_eq_true hw2, scaleS_no (fun h => by have := h.1.2.2.2; omega)]
          exact no
        · rw [decide_eq_false hw2]
          obtain ⟨x, rfl⟩ := Int.eq_ofNat_of_zero_le hf.1
          obtain ⟨y, rfl⟩ := Int.eq_ofNat_of_zero_le (show 0 ≤ den by omega)
          obtain ⟨z, rfl⟩ := Int.eq_ofNat_of_zero_le (show 0 ≤ way by omega)
          have hin := may_in hm
          have hok : okS s n (x : Int) (y : Int) (z : Int) := ⟨hm, hf, by omega⟩
          obtain ⟨k, rfl⟩ : ∃ j, k = j + 1 := ⟨k - 1, by omega⟩
          simp only [supercargoref01_Scale.j0]
          rw [if_neg (by simp)]
          have J := ref_j1 (s := s) (n := n) (m := n.natAbs) (num := x) (den := y) (way := z) (may_cur hm) (by omega) (by omega) (by omega) (by omega) (by omega) (k := k) (by omega)
          have goal : supercargoref01_Scale.j1 k (z : Int) (n.natAbs : Int) s n (x : Int) (y : Int) = some (scaleS s n x y z) := by
            rw [J]
            by_cases hq : qR n.natAbs x y z ≤ 1099511627776
            · rw [if_pos hq, scaleS_yes hok hq]; rfl
            · rw [if_neg hq, scaleS_no (fun h => hq h.2)]
          by_cases hn : n < 0
          · rw [if_pos hn, wrap_in (by omega) (by omega), show -n = (n.natAbs : Int) by omega]; exact goal
          · rw [if_neg hn]
            have e : (n.natAbs : Int) = n := by omega
            rw [e] at goal; exact goal
    · rw [decide_eq_false hf, if_neg (by simp), scaleS_no (fun h => hf h.1.2.1)]
      exact no
  · rw [if_neg hm, scaleS_no (fun h => hm h.1.1)]
    exact no
end Go.Proofs.YtggjphcikcflkaaDoor.Pure

/- The law of the parts: it says yes. -/
namespace Go.Proofs.YtggjphcikcflkaaDoor.Pure
open Go.RowKit Go.Proofs.YtggjphcikcflkaaDoor.P Go.Proofs.YtggjphcikcflkaaDoorW.PrintWords Go.Proofs.YtggjphcikcflkaaDoorW.PrintLast Go.Proofs.YtggjphcikcflkaaDoorW.PrintMore
theorem MoneyScales (s : ByteArray) (n : Int) (a b : Int) (w : Int) (_ : (Lit.int .i64 n).wf = true) (ha : (Lit.int .i64 a).wf = true) (hb : (Lit.int .i64 b).wf = true) (_ : (Lit.int .i64 w).wf = true) : ∃ k, supercargolaw01_MoneyScales.f k s n a b w = some true := by
  refine ⟨40000000000, ?_⟩
  have h1 := wf64 ha
  have h2 := wf64 hb
  unfold supercargolaw01_MoneyScales.f
  rw [Scale_eq h1.2 h2.2 (Nat.le_refl _), Option.bind_some, refScale_eq h1.2 h2.2 (by omega), Option.bind_some, if_pos (by simp), if_pos (by simp), awake_eq (by omega), Option.bind_some]
end Go.Proofs.YtggjphcikcflkaaDoor.Pure
