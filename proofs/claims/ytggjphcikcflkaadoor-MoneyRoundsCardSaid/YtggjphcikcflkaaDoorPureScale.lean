import Derived.Test.YtggjphcikcflkaaDoorPureBase
import Derived.Test.YtggjphcikcflkaaDoorPx7
import Derived.Laws.Bits64b
import Derived.Test.YtggjphcikcflkaaDoorPureMay
/- Long division of two digits by one, digit by digit: plain numbers. -/
namespace Knuth

/-- One digit of the quotient: what the correcting rounds keep, and what they end with. -/
structure Inv (B y1 y0 u un q r : Nat) : Prop where
  e : q * y1 + r = u
  h : u * B + un < (q + 1) * (y1 * B + y0)
  top : q ≤ B + 1

theorem over {B y1 y0 u un q r : Nat} (e : q * y1 + r = u) : q * (y1 * B + y0) ≤ u * B + un ↔ q * y0 ≤ B * r + un := by
  have h1 : q * (y1 * B + y0) = q * y1 * B + q * y0 := by rw [Nat.mul_add, Nat.mul_assoc]
  have h2 : u * B = q * y1 * B + B * r := by rw [← e, Nat.add_mul, Nat.mul_comm r B]
  rw [h1, h2]
  omega

theorem done {B y1 y0 u un q r : Nat} (i : Inv B y1 y0 u un q r) (h : q * y0 ≤ B * r + un) : q = (u * B + un) / (y1 * B + y0) := by
  have h1 := (over (B := B) (y0 := y0) (un := un) i.e).2 h
  have h2 := i.h
  have hy : 0 < y1 * B + y0 := by
    rcases Nat.eq_zero_or_pos (y1 * B + y0) with hz | hz
    · rw [hz] at h2; simp at h2
    · exact hz
  exact (Nat.div_eq_of_lt_le h1 h2).symm

theorem start {B y1 y0 u un : Nat} (h0 : y0 < B) (h1 : B ≤ 2 * y1) (hu : u < y1 * B + y0) (hun : un < B) : Inv B y1 y0 u un (u / y1) (u % y1) := by
  have hy1 : 0 < y1 := by omega
  have e := Nat.div_add_mod u y1
  refine ⟨by rw [Nat.mul_comm]; exact e, ?_, ?_⟩
  · have hlt := Nat.mod_lt u hy1
    have h2 : u + 1 ≤ (u / y1 + 1) * y1 := by rw [Nat.add_mul, Nat.one_mul, Nat.mul_comm]; omega
    have h3 : (u + 1) * B ≤ (u / y1 + 1) * y1 * B := Nat.mul_le_mul_right B h2
    rw [Nat.add_mul, Nat.one_mul] at h3
    rw [Nat.mul_add, ← Nat.mul_assoc]
    omega
  · have h2 : u < (B + 2) * y1 := by
      rw [Nat.add_mul, Nat.mul_comm B y1]; omega
    have := (Nat.div_lt_iff_lt_mul hy1).2 h2
    omega

theorem step {B y1 y0 u un q r : Nat} (hu : u < y1 * B + y0) (hun : un < B) (i : Inv B y1 y0 u un q r) (h : B ≤ q ∨ B * r + un < q * y0) :
    1 ≤ q ∧ Inv B y1 y0 u un (q - 1) (r + y1) := by
  have hq : 1 ≤ q := by
    rcases Nat.eq_zero_or_pos q with hz | hz
    · subst hz
      rcases h with h | h
      · omega
      · simp at h
    · exact hz
  refine ⟨hq, ?_, ?_, by have := i.top; omega⟩
  · have e := i.e
    obtain ⟨p, rfl⟩ : ∃ p, q = p + 1 := ⟨q - 1, by omega⟩
    rw [Nat.add_mul, Nat.one_mul] at e
    simp only [Nat.add_sub_cancel]
    omega
  · rw [Nat.sub_add_cancel hq]
    rcases h with h | h
    · have : (u + 1) * B ≤ q * (y1 * B + y0) := by
        rw [Nat.mul_comm (u + 1) B]
        exact Nat.mul_le_mul h hu
      rw [Nat.add_mul, Nat.one_mul] at this
      omega
    · rcases Nat.lt_or_ge (u * B + un) (q * (y1 * B + y0)) with h2 | h2
      · exact h2
      · have := (over (B := B) (y0 := y0) (un := un) i.e).1 h2
        omega

/-- Behind a round whose rest is no digit any more: the digit is right. -/
theorem broke {B y1 y0 u un q r : Nat} (h0 : y0 < B) (hu : u < y1 * B + y0) (i : Inv B y1 y0 u un q (r + y1)) (hr : B ≤ r + y1) : q < B ∧ q * y0 ≤ B * (r + y1) + un := by
  have hq : q < B := by
    rcases Nat.lt_or_ge q B with h | h
    · exact h
    · exfalso
      have e := i.e
      have : B * y1 ≤ q * y1 := Nat.mul_le_mul_right y1 h
      rw [Nat.mul_comm B y1] at this
      omega
  refine ⟨hq, ?_⟩
  have h1 : q * y0 ≤ B * B := Nat.mul_le_mul (by omega) (by omega)
  have h2 : B * B ≤ B * (r + y1) := Nat.mul_le_mul_left B hr
  omega

/-- The whole, out of its two digits. -/
theorem join {B y u0 N q1 q0 r1 : Nat} (h1 : q1 * y + r1 = N) (h0 : q0 = (r1 * B + u0) / y) : (N * B + u0) = (q1 * B + q0) * y + (r1 * B + u0) % y := by
  have e := Nat.div_add_mod (r1 * B + u0) y
  rw [← h0, Nat.mul_comm] at e
  rw [← h1, Nat.add_mul, Nat.add_mul, Nat.mul_assoc, Nat.mul_comm y B, ← Nat.mul_assoc]
  omega
end Knuth

/- math/bits.Div64, as the program walks it, in plain Lean: the quotient and the rest of two digits by one. -/
namespace Go.Proofs.YtggjphcikcflkaaDoor.Pure
open Go.RowKit Go.Proofs.YtggjphcikcflkaaDoor.P Go.Proofs.YtggjphcikcflkaaDoorW.PrintWords Go.Proofs.YtggjphcikcflkaaDoorW.PrintLast Go.Proofs.YtggjphcikcflkaaDoorW.PrintMore
theorem wu (n : Nat) (h : n < 18446744073709551616) : IntKind.u64.wrap (n : Int) = (n : Int) := wrapU_in (by omega) (by omega)
theorem mul_lt {a b : Nat} (ha : a < 4294967296) (hb : b < 4294967296) : a * b ≤ 18446744065119617025 := Nat.mul_le_mul (show a ≤ 4294967295 by omega) (show b ≤ 4294967295 by omega)
theorem test_eq {q y0 r un : Nat} (hq : q < 4294967296) (h0 : y0 < 4294967296) (hr : r < 4294967296) (hun : un < 4294967296) :
    (IntKind.u64.wrap ((q : Int) * (y0 : Int)) > IntKind.u64.wrap (IntKind.u64.wrap (4294967296 * (r : Int)) + (un : Int))) ↔ 4294967296 * r + un < q * y0 := by
  have hm := mul_lt hq h0
  rw [← Int.natCast_mul, wu _ (by omega), wrapU_in (x := 4294967296 * (r : Int)) (by omega) (by omega), wrapU_in (by omega) (by omega)]
  omega
/-- The first digit. -/
theorem div_l0 {Y s y1 y0 u un1 un0 : Nat} (h0 : y0 < 4294967296) (h1 : y1 < 4294967296) (hu : u < y1 * 4294967296 + y0) (hun : un1 < 4294967296) :
    ∀ (q r k : Nat), Knuth.Inv 4294967296 y1 y0 u un1 q r → r < 4294967296 → 2 * q + 3 ≤ k →
      ∃ k', k ≤ k' + 2 * q + 3 ∧ bits_Div64.l0 k (Y : Int) (s : Int) (y1 : Int) (y0 : Int) (u : Int) (un1 : Int) (un0 : Int) (q : Int) (r : Int) = bits_Div64.j2 k' (Y : Int) (s : Int) (y1 : Int) (y0 : Int) (u : Int) (un1 : Int) (un0 : Int) (((u * 4294967296 + un1) / (y1 * 4294967296 + y0) : Nat) : Int) := by
  intro q
  induction q using Nat.strongRecOn with
  | ind q ih =>
    intro r k I hr hk
    obtain ⟨k, rfl⟩ : ∃ j, k = j + 1 := ⟨k - 1, by omega⟩
    obtain ⟨k, rfl⟩ : ∃ j, k = j + 1 := ⟨k - 1, by omega⟩
    have htop := I.top
    -- a round that corrects
    have corr : (4294967296 ≤ q ∨ 4294967296 * r + un1 < q * y0) → ∃ k', k + 1 + 1 ≤ k' + 2 * q + 3 ∧ bits_Div64.j1 (k + 1) (Y : Int) (s : Int) (y1 : Int) (y0 : Int) (u : Int) (un1 : Int) (un0 : Int) (q : Int) (r : Int) true = bits_Div64.j2 k' (Y : Int) (s : Int) (y1 : Int) (y0 : Int) (u : Int) (un1 : Int) (un0 : Int) (((u * 4294967296 + un1) / (y1 * 4294967296 + y0) : Nat) : Int) := by
      intro hc
      obtain ⟨hq1, I2⟩ := Knuth.step hu hun I hc
      have ew : IntKind.u64.wrap ((q : Int) - 1) = ((q - 1 : Nat) : Int) := by rw [wrapU_in (by omega) (by omega)]; omega
      have er : IntKind.u64.wrap ((r : Int) + (y1 : Int)) = ((r + y1 : Nat) : Int) := by rw [wrapU_in (by omega) (by omega)]; omega
      simp only [bits_Div64.j1]
      rw [if_pos trivial, ew, er]
      by_cases hb : 4294967296 ≤ r + y1
      · rw [if_pos (show ((r + y1 : Nat) : Int) ≥ 4294967296 by omega)]
        obtain ⟨hlt, hle⟩ := Knuth.broke h0 hu I2 hb
        rw [Knuth.done I2 hle]
        exact ⟨k, by omega, rfl⟩
      · rw [if_neg (show ¬ ((r + y1 : Nat) : Int) ≥ 4294967296 by omega)]
        obtain ⟨k', hk', e⟩ := ih (q - 1) (by omega) (r + y1) k I2 (by omega) (by omega)
        exact ⟨k', by omega, e⟩
    simp only [bits_Div64.l0]
    by_cases hq : 4294967296 ≤ q
    · rw [if_pos (show (q : Int) ≥ 4294967296 by omega)]
      exact corr (.inl hq)
    · rw [if_neg (show ¬ (q : Int) ≥ 4294967296 by omega)]
      by_cases ht : 4294967296 * r + un1 < q * y0
      · rw [decide_eq_true ((test_eq (by omega) h0 hr hun).2 ht)]
        exact corr (.inr ht)
      · rw [decide_eq_false (fun x => ht ((test_eq (by omega) h0 hr hun).1 x))]
        simp only [bits_Div64.j1]
        rw [if_neg (by simp)]
        have := Knuth.done I (by omega)
        rw [← this]
        exact ⟨k, by omega, rfl⟩
/-- What stands at the end: the digits put together, the rest. -/
def fin (s Y q1 u21 un0 d : Nat) : Option (Int × Int) := some (((q1 * 4294967296 + d : Nat) : Int), (((u21 * 4294967296 + un0 - d * Y) / 2 ^ s : Nat) : Int))
theorem fin_eq {s Y q1 u21 un0 d : Nat} (hs : s ≤ 64) (hY : Y < 18446744073709551616) (hq1 : q1 < 4294967296) (hd : d < 4294967296) (h1 : d * Y ≤ u21 * 4294967296 + un0) (h2 : u21 * 4294967296 + un0 < d * Y + Y) :
    (if 0 ≤ (s : Int) then (some (IntKind.u64.wrap ((IntKind.u64.wrap ((q1 : Int) * 4294967296)) + (d : Int)), shr .u64 (IntKind.u64.wrap ((IntKind.u64.wrap ((IntKind.u64.wrap ((u21 : Int) * 4294967296)) + (un0 : Int))) - (IntKind.u64.wrap ((d : Int) * (Y : Int))))) (s : Int))) else none) = fin s Y q1 u21 un0 d := by
  rw [if_pos (by omega)]
  unfold fin
  have e1 : IntKind.u64.wrap ((IntKind.u64.wrap ((q1 : Int) * 4294967296)) + (d : Int)) = ((q1 * 4294967296 + d : Nat) : Int) := by
    rw [wrapU_in (x := (q1 : Int) * 4294967296) (by omega) (by omega), wrapU_in (by omega) (by omega)]
    omega
  have e2 : IntKind.u64.wrap ((IntKind.u64.wrap ((IntKind.u64.wrap ((u21 : Int) * 4294967296)) + (un0 : Int))) - (IntKind.u64.wrap ((d : Int) * (Y : Int)))) = ((u21 * 4294967296 + un0 - d * Y : Nat) : Int) := by
    rw [← Int.natCast_mul]
    generalize d * Y = P at h1 h2
    simp only [IntKind.wrap_u64]
    omega
  rw [e1, e2]
  unfold shr
  congr 2
  have e3 : min ((s : Int).toNat) IntKind.u64.bits = s := by
    rw [Int.toNat_natCast]
    exact Nat.min_eq_left hs
  rw [e3]
  rfl
/-- The second digit. -/
theorem div_l1 {Y s y1 y0 un0 q1 u21 : Nat} (hs : s ≤ 64) (hYe : Y = y1 * 4294967296 + y0) (hY : Y < 18446744073709551616) (h0 : y0 < 4294967296) (hu : u21 < y1 * 4294967296 + y0) (hun : un0 < 4294967296) (hq1 : q1 < 4294967296) :
    ∀ (q r k : Nat), Knuth.Inv 4294967296 y1 y0 u21 un0 q r → r < 4294967296 → 2 * q + 3 ≤ k →
      bits_Div64.l1 k (Y : Int) (s : Int) (y1 : Int) (y0 : Int) (un0 : Int) (q1 : Int) (r : Int) (u21 : Int) (q : Int) = fin s Y q1 u21 un0 ((u21 * 4294967296 + un0) / Y) := by
  intro q
  have hYp : 0 < Y := by omega
  have dlt : (u21 * 4294967296 + un0) / Y < 4294967296 := by
    rw [Nat.div_lt_iff_lt_mul hYp]
    have : (u21 + 1) * 4294967296 ≤ Y * 4294967296 := Nat.mul_le_mul_right _ (by omega)
    omega
  have dle : (u21 * 4294967296 + un0) / Y * Y ≤ u21 * 4294967296 + un0 := Nat.div_mul_le_self _ _
  have dgt : u21 * 4294967296 + un0 < (u21 * 4294967296 + un0) / Y * Y + Y := by
    have := Nat.div_add_mod (u21 * 4294967296 + un0) Y
    have := Nat.mod_lt (u21 * 4294967296 + un0) hYp
    rw [Nat.mul_comm Y] at *
    omega
  have F := fin_eq (s := s) (Y := Y) (q1 := q1) (u21 := u21) (un0 := un0) hs hY hq1 dlt dle dgt
  induction q using Nat.strongRecOn with
  | ind q ih =>
    intro r k I hr hk
    obtain ⟨k, rfl⟩ : ∃ j, k = j + 1 := ⟨k - 1, by omega⟩
    obtain ⟨k, rfl⟩ : ∃ j, k = j + 1 := ⟨k - 1, by omega⟩
    have htop := I.top
    have corr : (4294967296 ≤ q ∨ 4294967296 * r + un0 < q * y0) → bits_Div64.j4 (k + 1) (Y : Int) (s : Int) (y1 : Int) (y0 : Int) (un0 : Int) (q1 : Int) (r : Int) (u21 : Int) (q : Int) true = fin s Y q1 u21 un0 ((u21 * 4294967296 + un0) / Y) := by
      intro hc
      obtain ⟨hq1', I2⟩ := Knuth.step hu hun I hc
      have ew : IntKind.u64.wrap ((q : Int) - 1) = ((q - 1 : Nat) : Int) := by rw [wrapU_in (by omega) (by omega)]; omega
      have er : IntKind.u64.wrap ((r : Int) + (y1 : Int)) = ((r + y1 : Nat) : Int) := by rw [wrapU_in (by omega) (by omega)]; omega
      simp only [bits_Div64.j4]
      rw [if_pos trivial, ew, er]
      by_cases hb : 4294967296 ≤ r + y1
      · rw [if_pos (show ((r + y1 : Nat) : Int) ≥ 4294967296 by omega)]
        obtain ⟨hlt, hle⟩ := Knuth.broke h0 hu I2 hb
        have hd := Knuth.done I2 hle
        rw [← hYe] at hd
        rw [hd]
        exact F
      · rw [if_neg (show ¬ ((r + y1 : Nat) : Int) ≥ 4294967296 by omega)]
        exact ih (q - 1) (by omega) (r + y1) k I2 (by omega) (by omega)
    simp only [bits_Div64.l1]
    by_cases hq : 4294967296 ≤ q
    · rw [if_pos (show (q : Int) ≥ 4294967296 by omega)]
      exact corr (.inl hq)
    · rw [if_neg (show ¬ (q : Int) ≥ 4294967296 by omega)]
      by_cases ht : 4294967296 * r + un0 < q * y0
      · rw [decide_eq_true ((test_eq (by omega) h0 hr hun).2 ht)]
        exact corr (.inr ht)
      · rw [decide_eq_false (fun x => ht ((test_eq (by omega) h0 hr hun).1 x))]
        simp only [bits_Div64.j4]
        rw [if_neg (by simp)]
        have hd := Knuth.done I (by omega)
        rw [← hYe] at hd
        rw [hd]
        exact F
/-- The second digit begun. -/
theorem div_j2 {Y s y1 y0 u un1 un0 q1 u21 : Nat} (hs : s ≤ 64) (hYe : Y = y1 * 4294967296 + y0) (hY : Y < 18446744073709551616) (h0 : y0 < 4294967296) (hy1 : 2147483648 ≤ y1) (hu : u < Y) (hun1 : un1 < 4294967296) (hun0 : un0 < 4294967296)
    (em : Y * q1 + u21 = u * 4294967296 + un1) (hm : u21 < Y) {k : Nat} (hk : 10000000000 ≤ k) :
    bits_Div64.j2 k (Y : Int) (s : Int) (y1 : Int) (y0 : Int) (u : Int) (un1 : Int) (un0 : Int) (q1 : Int) = fin s Y q1 u21 un0 ((u21 * 4294967296 + un0) / Y) := by
  obtain ⟨k, rfl⟩ : ∃ j, k = j + 1 := ⟨k - 1, by omega⟩
  have qlt : q1 < 4294967296 := by
    rcases Nat.lt_or_ge q1 4294967296 with h | h
    · exact h
    · exfalso
      have := Nat.mul_le_mul_left Y h
      omega
  have e21 : IntKind.u64.wrap ((IntKind.u64.wrap ((IntKind.u64.wrap ((u : Int) * 4294967296)) + (un1 : Int))) - (IntKind.u64.wrap ((q1 : Int) * (Y : Int)))) = (u21 : Int) := by
    rw [← Int.natCast_mul, Nat.mul_comm q1 Y]
    generalize Y * q1 = P at em
    simp only [IntKind.wrap_u64]
    omega
  simp only [bits_Div64.j2]
  rw [e21, if_neg (by omega)]
  have I := Knuth.start (B := 4294967296) (y1 := y1) (y0 := y0) (u := u21) (un := un0) h0 (by omega) (by omega) hun0
  have hr := Nat.mod_lt u21 (show 0 < y1 by omega)
  have ed := Nat.div_add_mod u21 y1
  have hq0 : IntKind.u64.wrap (Int.tdiv (u21 : Int) (y1 : Int)) = ((u21 / y1 : Nat) : Int) := by
    have h : Int.tdiv (u21 : Int) (y1 : Int) = ((u21 / y1 : Nat) : Int) := rfl
    have := Nat.div_le_self u21 y1
    rw [h]
    exact wu _ (by omega)
  have hr0 : IntKind.u64.wrap ((u21 : Int) - IntKind.u64.wrap (((u21 / y1 : Nat) : Int) * (y1 : Int))) = ((u21 % y1 : Nat) : Int) := by
    rw [← Int.natCast_mul, Nat.mul_comm _ y1]
    generalize y1 * (u21 / y1) = P at ed
    generalize u21 % y1 = R at ed
    rw [wu P (by omega), wrapU_in (by omega) (by omega)]
    omega
  rw [hq0, hr0]
  have htop := I.top
  exact div_l1 hs hYe hY h0 (by omega) hun0 qlt _ _ k I (by omega) (by omega)
/-- Both digits, and the rest. -/
theorem div_both {u v v1 v0 Y q1 r1 d R : Nat} (j1 : Y * q1 + r1 = u * 4294967296 + v1) (j2 : Y * d + R = r1 * 4294967296 + v0) (hlt : R < Y) (hve : v = v1 * 4294967296 + v0) :
    (u * 18446744073709551616 + v) / Y = q1 * 4294967296 + d ∧ (u * 18446744073709551616 + v) % Y = R ∧ r1 * 4294967296 + v0 - d * Y = R := by
  have hYp : 0 < Y := by omega
  have tot : u * 18446744073709551616 + v = (q1 * 4294967296 + d) * Y + R := by
    have e1 : (q1 * 4294967296 + d) * Y = Y * q1 * 4294967296 + Y * d := by rw [Nat.add_mul, Nat.mul_right_comm, Nat.mul_comm q1 Y, Nat.mul_comm d Y]
    rw [e1, hve]
    omega
  refine ⟨?_, ?_, ?_⟩
  · rw [tot, Nat.mul_comm, Nat.mul_add_div hYp, Nat.div_eq_of_lt hlt, Nat.add_zero]
  · rw [tot, Nat.mul_comm, Nat.mul_add_mod, Nat.mod_eq_of_lt hlt]
  · rw [Nat.mul_comm d Y]
    omega
theorem shl_eq {x s : Nat} (hs : s ≤ 64) : shl .u64 (x : Int) (s : Int) = ((x * 2 ^ s % 18446744073709551616 : Nat) : Int) := by
  unfold shl
  have e3 : min ((s : Int).toNat) IntKind.u64.bits = s := by
    rw [Int.toNat_natCast]
    exact Nat.min_eq_left hs
  rw [e3, IntKind.wrap_u64, Int.natCast_emod, Int.natCast_mul, Int.natCast_pow]
  simp
theorem shr_eq {x s : Nat} (hs : s ≤ 64) : shr .u64 (x : Int) (s : Int) = ((x / 2 ^ s : Nat) : Int) := by
  unfold shr
  have e3 : min ((s : Int).toNat) IntKind.u64.bits = s := by
    rw [Int.toNat_natCast]
    exact Nat.min_eq_left hs
  rw [e3]
  rfl
theorem low_eq {x : Nat} (h : x < 18446744073709551616) : Go.bits .and .u64 (x : Int) 4294967295 = ((x % 4294967296 : Nat) : Int) := by
  have := bits_and_u64_nat x 4294967295 h (by omega)
  have e : x &&& 4294967295 = x % 4294967296 := Nat.and_two_pow_sub_one_eq_mod x 32
  rw [e] at this
  exact this
set_option maxRecDepth 100000 in
theorem Div64_eq {hi lo y : Nat} (hy : hi < y) (hY : y < 18446744073709551616) (hlo : lo < 18446744073709551616) {k : Nat} (hk : 30000000000 ≤ k) :
    bits_Div64.f k (hi : Int) (lo : Int) (y : Int) = some ((((hi * 18446744073709551616 + lo) / y : Nat) : Int), (((hi * 18446744073709551616 + lo) % y : Nat) : Int)) := by
  unfold bits_Div64.f
  rw [if_neg (by omega), if_neg (by omega)]
  by_cases h0 : hi = 0
  · subst h0
    rw [if_pos (by omega), Nat.zero_mul, Nat.zero_add]
    have h : Int.tdiv (lo : Int) (y : Int) = ((lo / y : Nat) : Int) := rfl
    have := Nat.div_le_self lo y
    rw [h, wu _ (by omega)]
    rfl
  · rw [if_neg (by omega)]
    obtain ⟨b1, b2, b3⟩ := Lib.bitLenAux_bounds 64 y (by simpa using hY) (by omega)
    have b4 : Lib.bitLen y ≤ 64 := Lib.bitLen_le y 64 (Nat.le_refl 64) (by simpa using hY)
    change 1 ≤ Lib.bitLen y at b1
    change 2 ^ (Lib.bitLen y - 1) ≤ y at b2
    change y < 2 ^ Lib.bitLen y at b3
    unfold bits_LeadingZeros64.f
    rw [if_pos ⟨by omega, by omega⟩, Int.toNat_natCast, Option.bind_some]
    generalize Lib.bitLen y = L at b1 b2 b3 b4
    obtain ⟨s, hs⟩ : ∃ s, s + L = 64 := ⟨64 - L, by omega⟩
    have es : (64 : Int) - (L : Int) = (s : Int) := by omega
    have es2 : (64 : Int) - (s : Int) = (L : Int) := by omega
    rw [es, wu s (by omega), es2, wu L (by omega), if_pos (by omega), if_pos (by omega)]
    rw [shl_eq (x := y) (s := s) (by omega), shl_eq (x := hi) (s := s) (by omega), shl_eq (x := lo) (s := s) (by omega), shr_eq (x := lo) (s := L) (by omega)]
    -- two powers: p * r = 2^64
    have hpr : 2 ^ s * 2 ^ L = 18446744073709551616 := by rw [← Nat.pow_add, hs]
    have hp : 0 < 2 ^ s := Nat.pow_pos (by omega)
    have hr : 0 < 2 ^ L := Nat.pow_pos (by omega)
    have hhalf : 2 * 2 ^ (L - 1) = 2 ^ L := by rw [Nat.mul_comm, ← Nat.pow_succ]; congr 1; omega
    have yp1 : y * 2 ^ s < 18446744073709551616 := by rw [← hpr, Nat.mul_comm]; exact Nat.mul_lt_mul_of_pos_left b3 hp
    have yp2 : 9223372036854775808 ≤ y * 2 ^ s := by
      have : 2 ^ (L - 1) * 2 ^ s ≤ y * 2 ^ s := Nat.mul_le_mul_right _ b2
      have e : 2 * (2 ^ (L - 1) * 2 ^ s) = 18446744073709551616 := by rw [← Nat.mul_assoc, hhalf, Nat.mul_comm, hpr]
      omega
    have hip : hi * 2 ^ s + 2 ^ s ≤ y * 2 ^ s := by
      have : (hi + 1) * 2 ^ s ≤ y * 2 ^ s := Nat.mul_le_mul_right _ hy
      rwa [Nat.add_mul, Nat.one_mul] at this
    have lor : lo / 2 ^ L < 2 ^ s := by rw [Nat.div_lt_iff_lt_mul hr, hpr]; exact hlo
    rw [Nat.mod_eq_of_lt yp1, Nat.mod_eq_of_lt (show hi * 2 ^ s < 18446744073709551616 by omega)]
    have hor : Go.bits .or .u64 ((hi * 2 ^ s : Nat) : Int) ((lo / 2 ^ L : Nat) : Int) = ((hi * 2 ^ s + lo / 2 ^ L : Nat) : Int) := by
      rw [bits_or_u64_nat _ _ (by omega) (by omega)]
      congr 1
      rw [Nat.mul_comm hi, Nat.two_pow_add_eq_or_of_lt lor]
    rw [hor]
    have hmod : lo * 2 ^ s % 18446744073709551616 < 18446744073709551616 := Nat.mod_lt _ (by omega)
    rw [low_eq yp1, low_eq hmod]
    -- the number, moved up
    have hN : (hi * 18446744073709551616 + lo) * 2 ^ s = (hi * 2 ^ s + lo / 2 ^ L) * 18446744073709551616 + lo * 2 ^ s % 18446744073709551616 := by
      have e1 := Nat.div_add_mod (lo * 2 ^ s) 18446744073709551616
      have e2 : lo * 2 ^ s / 18446744073709551616 = lo / 2 ^ L := by rw [← hpr, Nat.mul_comm lo, Nat.mul_div_mul_left _ _ hp]
      rw [e2] at e1
      have e3 : hi * 18446744073709551616 * 2 ^ s = hi * 2 ^ s * 18446744073709551616 := Nat.mul_right_comm _ _ _
      rw [Nat.add_mul, Nat.add_mul, e3]
      omega
    have hq : (hi * 18446744073709551616 + lo) / y = (hi * 18446744073709551616 + lo) * 2 ^ s / (y * 2 ^ s) := (Nat.mul_div_mul_right _ _ hp).symm
    have hm : (hi * 18446744073709551616 + lo) % y = (hi * 18446744073709551616 + lo) * 2 ^ s % (y * 2 ^ s) / 2 ^ s := by rw [Nat.mul_mod_mul_right, Nat.mul_div_cancel _ hp]
    rw [hq, hm, hN]
    have hu : hi * 2 ^ s + lo / 2 ^ L < y * 2 ^ s := by omega
    generalize hi * 2 ^ s + lo / 2 ^ L = u at hu
    generalize lo * 2 ^ s % 18446744073709551616 = v at hmod
    generalize y * 2 ^ s = Y at yp1 yp2 hu
    have hYe : Y = Y / 4294967296 * 4294967296 + Y % 4294967296 := by omega
    have hve : v = v / 4294967296 * 4294967296 + v % 4294967296 := by omega
    have c1 : ((Y : Nat) : Int) / 4294967296 = ((Y / 4294967296 : Nat) : Int) := rfl
    have c2 : ((v : Nat) : Int) / 4294967296 = ((v / 4294967296 : Nat) : Int) := rfl
    rw [c1, c2]
    have y1a : 2147483648 ≤ Y / 4294967296 := by omega
    have y1b : Y / 4294967296 < 4294967296 := by omega
    have y0b : Y % 4294967296 < 4294967296 := by omega
    have v1b : v / 4294967296 < 4294967296 := by omega
    have v0b : v % 4294967296 < 4294967296 := by omega
    generalize Y / 4294967296 = y1 at *
    generalize Y % 4294967296 = y0 at *
    generalize v / 4294967296 = v1 at *
    generalize v % 4294967296 = v0 at *
    rw [if_neg (by omega)]
    have I := Knuth.start (B := 4294967296) (y1 := y1) (y0 := y0) (u := u) (un := v1) y0b (by omega) (by omega) v1b
    have hrm := Nat.mod_lt u (show 0 < y1 by omega)
    have ed := Nat.div_add_mod u y1
    have hq0 : IntKind.u64.wrap (Int.tdiv (u : Int) (y1 : Int)) = ((u / y1 : Nat) : Int) := by
      have h : Int.tdiv (u : Int) (y1 : Int) = ((u / y1 : Nat) : Int) := rfl
      have := Nat.div_le_self u y1
      rw [h]
      exact wu _ (by omega)
    have hr0 : IntKind.u64.wrap ((u : Int) - IntKind.u64.wrap (((u / y1 : Nat) : Int) * (y1 : Int))) = ((u % y1 : Nat) : Int) := by
      rw [← Int.natCast_mul, Nat.mul_comm _ y1]
      generalize y1 * (u / y1) = P at ed
      generalize u % y1 = R at ed
      rw [wu P (by omega), wrapU_in (by omega) (by omega)]
      omega
    rw [hq0, hr0]
    have htop := I.top
    obtain ⟨k', hk', e⟩ := div_l0 (Y := Y) (s := s) (un0 := v0) y0b y1b (by omega) v1b _ _ k I (by omega) (by omega)
    have hYp : 0 < Y := by omega
    have em := Nat.div_add_mod (u * 4294967296 + v1) Y
    have hm := Nat.mod_lt (u * 4294967296 + v1) hYp
    have em2 := Nat.div_add_mod ((u * 4294967296 + v1) % Y * 4294967296 + v0) Y
    have hm2 := Nat.mod_lt ((u * 4294967296 + v1) % Y * 4294967296 + v0) hYp
    rw [e, ← hYe, div_j2 (by omega) hYe yp1 y0b y1a hu v1b v0b em hm (by omega)]
    obtain ⟨b1, b2, b3⟩ := div_both em em2 hm2 hve
    unfold fin
    rw [b1, b2, b3]
end Go.Proofs.YtggjphcikcflkaaDoor.Pure

/- An amount taken by a fraction, as the program does it, in plain Lean: the quotient, rounded. -/
namespace Go.Proofs.YtggjphcikcflkaaDoor.Pure
open Go.RowKit Go.Proofs.YtggjphcikcflkaaDoor.P Go.Proofs.YtggjphcikcflkaaDoorW.PrintWords Go.Proofs.YtggjphcikcflkaaDoorW.PrintLast Go.Proofs.YtggjphcikcflkaaDoorW.PrintMore
/-- Is what is left one more? -/
def upB (way l den : Nat) : Bool := (decide (way = 1) && decide (0 < l)) || (decide (way = 2) && decide (den - l ≤ l))
/-- The quotient, rounded. -/
def qR (n num den way : Nat) : Nat := n * num / den + (if upB way (n * num % den) den = true then 1 else 0)
def okS (s : ByteArray) (n num den way : Int) : Prop := may s n = true ∧ (0 ≤ num ∧ 1 ≤ den) ∧ (0 ≤ way ∧ way ≤ 2)
def sg (n : Int) (q : Nat) : Int := if n < 0 then -(q : Int) else (q : Int)
noncomputable def scaleS (s : ByteArray) (n num den way : Int) : ByteArray × Int × Bool :=
  open Classical in if okS s n num den way ∧ qR n.natAbs num.toNat den.toNat way.toNat ≤ 1099511627776 then (s, sg n (qR n.natAbs num.toNat den.toNat way.toNat), true) else (strD [], 0, false)
theorem scaleS_yes {s : ByteArray} {n num den way : Int} (h : okS s n num den way) (hq : qR n.natAbs num.toNat den.toNat way.toNat ≤ 1099511627776) : scaleS s n num den way = (s, sg n (qR n.natAbs num.toNat den.toNat way.toNat), true) := by
  unfold scaleS
  rw [if_pos ⟨h, hq⟩]
theorem scaleS_no {s : ByteArray} {n num den way : Int} (h : ¬ (okS s n num den way ∧ qR n.natAbs num.toNat den.toNat way.toNat ≤ 1099511627776)) : scaleS s n num den way = (strD [], 0, false) := by
  unfold scaleS
  rw [if_neg h]
theorem fraction_eq' (a b : Int) : money_fraction.f a b = some (decide (0 ≤ a ∧ 1 ≤ b)) := by
  unfold money_fraction.f
  by_cases h : a ≥ 0
  · rw [if_pos h]
    congr 1
    by_cases h2 : b ≥ 1
    · rw [decide_eq_true h2, decide_eq_true (show 0 ≤ a ∧ 1 ≤ b from ⟨h, h2⟩)]
    · rw [decide_eq_false h2, decide_eq_false (show ¬ (0 ≤ a ∧ 1 ≤ b) from fun x => h2 x.2)]
  · rw [if_neg h, decide_eq_false (show ¬ (0 ≤ a ∧ 1 ≤ b) from fun x => h x.1)]
theorem cmpI_eq (x y : Int) : cmp_Compare_int64.f x y = some (if x < y then -1 else if x > y then 1 else 0) := by
  unfold cmp_Compare_int64.f cmp_isNaN_int64.f
  rw [Option.bind_some, Option.bind_some, if_neg (by simp), if_neg (by simp)]
  by_cases h : x < y
  · rw [if_pos h, if_pos h]
  · rw [if_neg h, if_neg h]
    by_cases h2 : x > y
    · rw [if_pos h2, if_pos h2]
    · rw [if_neg h2, if_neg h2]
theorem more_eq {way l den : Nat} (hw : way ≤ 2) (hl : l < den) (hd : den < 9223372036854775808) : money_more.f (way : Int) (l : Int) (den : Int) = some (upB way l den) := by
  unfold money_more.f upB
  by_cases h0 : way = 0
  · subst h0
    rw [if_pos (by omega)]; rfl
  · rw [if_neg (by omega)]
    by_cases h1 : way = 1
    · subst h1
      rw [if_pos (by omega)]
      congr 1
      by_cases hl0 : 0 < l
      · rw [decide_eq_true (show (l : Int) > 0 by omega), decide_eq_true hl0]; rfl
      · rw [decide_eq_false (show ¬ (l : Int) > 0 by omega), decide_eq_false hl0]; rfl
    · obtain rfl : way = 2 := by omega
      rw [if_neg (by omega), if_pos (by omega)]
      congr 1
      rw [wrapU_in (by omega) (by omega)]
      by_cases hm : den - l ≤ l
      · rw [decide_eq_true (show (l : Int) ≥ (den : Int) - (l : Int) by omega), decide_eq_true hm]; rfl
      · rw [decide_eq_false (show ¬ (l : Int) ≥ (den : Int) - (l : Int) by omega), decide_eq_false hm]; rfl
theorem mulN_eq {x y : Nat} (hx : x < 18446744073709551616) (hy : y < 18446744073709551616) : bits_Mul64.f (x : Int) (y : Int) = some (((x * y / 18446744073709551616 : Nat) : Int), ((x * y % 18446744073709551616 : Nat) : Int)) := by
  unfold bits_Mul64.f
  rw [if_pos ⟨⟨by omega, by omega⟩, by omega, by omega⟩, ← Int.natCast_mul]
  rfl
theorem upB_le (way l den : Nat) : (if upB way l den = true then 1 else 0) ≤ 1 := by split <;> omega
theorem scale_j0 {s : ByteArray} {n : Int} {num den way : Nat} (hm : may s n = true) (hnum : num < 9223372036854775808) (hd1 : 1 ≤ den) (hd : den < 9223372036854775808) (hw : way ≤ 2) {k : Nat} (hk : 40000000000 ≤ k) :
    money_Scale.j0 k (way : Int) false s n (num : Int) (den : Int) = some (if qR n.natAbs num den way ≤ 1099511627776 then (s, sg n (qR n.natAbs num den way), true) else (strD [], 0, false)) := by
  obtain ⟨k, rfl⟩ : ∃ j, k = j + 1 := ⟨k - 1, by omega⟩
  obtain ⟨i0, i1⟩ := may_in hm
  have hc := may_cur hm
  simp only [money_Scale.j0]
  rw [if_neg (by simp), cmpI_eq, Option.bind_some]
  have ea : IntKind.u64.wrap (wrap64 ((if n < 0 then -1 else if n > 0 then 1 else 0) * n)) = (n.natAbs : Int) := by
    rcases Int.lt_trichotomy n 0 with h | h | h
    · rw [if_pos h, wrap_in (by omega) (by omega), wrapU_in (by omega) (by omega)]; omega
    · subst h
      rw [if_neg (by omega), if_neg (by omega), Int.zero_mul, wrap_in (by omega) (by omega), wrapU_in (by omega) (by omega)]; rfl
    · rw [if_neg (by omega), if_pos h, wrap_in (by omega) (by omega), wrapU_in (by omega) (by omega)]; omega
  rw [ea, wu num (by omega), wu den (by omega), mulN_eq (by omega) (by omega), Option.bind_some]
  simp only []
  have hN := Nat.div_add_mod (n.natAbs * num) 18446744073709551616
  have hlo := Nat.mod_lt (n.natAbs * num) (show 0 < 18446744073709551616 by omega)
  unfold qR
  obtain ⟨N, hN0⟩ : ∃ N, n.natAbs * num = N := ⟨_, rfl⟩
  rw [hN0] at hN hlo ⊢
  by_cases hbig : den ≤ N / 18446744073709551616
  · rw [if_pos (show ((N / 18446744073709551616 : Nat) : Int) ≥ (den : Int) by omega), if_neg]
    · rfl
    · have : 18446744073709551616 ≤ N / den := by
        rw [Nat.le_div_iff_mul_le (by omega)]
        omega
      omega
  · rw [if_neg (show ¬ ((N / 18446744073709551616 : Nat) : Int) ≥ (den : Int) by omega), Div64_eq (by omega) (by omega) hlo (by omega), Option.bind_some]
    have e : N / 18446744073709551616 * 18446744073709551616 + N % 18446744073709551616 = N := by omega
    simp only [e]
    have hl := Nat.mod_lt N (show 0 < den by omega)
    by_cases hq : 1099511627776 < N / den
    · rw [if_pos (show ((N / den : Nat) : Int) > 1099511627776 by omega), if_neg (by omega)]; rfl
    · rw [if_neg (show ¬ ((N / den : Nat) : Int) > 1099511627776 by omega), more_eq hw hl hd, Option.bind_some]
      have hz : n = 0 → N = 0 → upB way (N % den) den = false := by
        intro _ h0
        subst h0
        unfold upB
        rw [Nat.zero_mod, decide_eq_false (show ¬ 0 < 0 by omega), decide_eq_false (show ¬ den - 0 ≤ 0 by omega)]
        simp
      obtain ⟨Q, hQ⟩ : ∃ Q, N / den = Q := ⟨_, rfl⟩
      rw [hQ] at hq ⊢
      -- the rounded quotient, with the sign
      have fin : ∀ R : Nat, R ≤ 1099511627777 → (R = 0 ∨ n ≠ 0) → (money_May.f s (wrap64 ((if n < 0 then -1 else if n > 0 then 1 else 0) * wrap64 (R : Int)))).bind (fun t => (if t = true then (some (s, wrap64 ((if n < 0 then -1 else if n > 0 then 1 else 0) * wrap64 (R : Int)), true)) else (some ((⟨#[]⟩ : ByteArray), 0, false)))) = some (if R ≤ 1099511627776 then (s, sg n R, true) else (strD [], 0, false)) := by
        intro R hR hn0
        have es : wrap64 ((if n < 0 then -1 else if n > 0 then 1 else 0) * wrap64 (R : Int)) = sg n R := by
          rw [wrap_in (x := (R : Int)) (by omega) (by omega)]
          unfold sg
          rcases Int.lt_trichotomy n 0 with h | h | h
          · rw [if_pos h, if_pos h, wrap_in (by omega) (by omega)]; omega
          · subst h
            obtain rfl : R = 0 := hn0.resolve_right (by simp)
            rw [if_neg (by omega), if_neg (by omega), if_neg (by omega), Int.zero_mul, wrap_in (by omega) (by omega)]; rfl
          · rw [if_neg (by omega), if_pos h, if_neg (by omega), wrap_in (by omega) (by omega)]; omega
        rw [es, may_eq, Option.bind_some]
        have hmy : may s (sg n R) = decide (R ≤ 1099511627776) := by
          unfold may within sg
          rw [hc, Bool.true_and]
          by_cases hr : R ≤ 1099511627776
          · rw [decide_eq_true hr]
            split
            · rw [decide_eq_true (by omega), decide_eq_true (by omega)]; rfl
            · rw [decide_eq_true (by omega), decide_eq_true (by omega)]; rfl
          · rw [decide_eq_false hr]
            split
            · rw [decide_eq_false (show ¬ -1099511627776 ≤ -(R : Int) by omega), Bool.false_and]
            · rw [decide_eq_false (show ¬ (R : Int) ≤ 1099511627776 by omega), Bool.and_false]
        rw [hmy]
        by_cases hr : R ≤ 1099511627776
        · rw [decide_eq_true hr, if_pos rfl, if_pos hr]
        · rw [decide_eq_false hr, if_neg (by simp), if_neg hr]; rfl
      have hzero : n = 0 → N = 0 := fun h0 => by
        subst h0
        have := hN0
        simpa using this.symm
      have hQ0 : N = 0 → Q = 0 := fun h0 => by rw [← hQ, h0, Nat.zero_div]
      cases hu : upB way (N % den) den with
      | true =>
        have hn0 : n ≠ 0 := fun h0 => by
          rw [hz h0 (hzero h0)] at hu
          cases hu
        rw [if_pos rfl, if_pos rfl]
        have e1 : IntKind.u64.wrap ((Q : Int) + 1) = ((Q + 1 : Nat) : Int) := by rw [wrapU_in (by omega) (by omega)]; omega
        rw [e1]
        exact fin (Q + 1) (by omega) (.inr hn0)
      | false =>
        simp only [Bool.false_eq_true, if_false, Nat.add_zero]
        refine fin Q (by omega) ?_
        by_cases h0 : n = 0
        · exact .inl (hQ0 (hzero h0))
        · exact .inr h0
theorem Scale_eq {s : ByteArray} {n num den way : Int} (hnum : num ≤ 9223372036854775807) (hd : den ≤ 9223372036854775807) {k : Nat} (hk : 40000000000 ≤ k) : money_Scale.f k s n num den way = some (scaleS s n num den way) := by
  unfold money_Scale.f money_way.f
  rw [Option.bind_some, may_eq, Option.bind_some]
  have no : ∀ w : Int, money_Scale.j0 k w true s n num den = some (strD [], 0, false) := by
    intro w
    obtain ⟨k, rfl⟩ : ∃ j, k = j + 1 := ⟨k - 1, by omega⟩
    simp only [money_Scale.j0]
    rw [if_pos trivial]; rfl
  by_cases hm : may s n = true
  · rw [if_pos hm, fraction_eq', Option.bind_some]
    by_cases hf : 0 ≤ num ∧ 1 ≤ den
    · rw [decide_eq_true hf, if_pos rfl]
      by_cases hw : 0 ≤ way ∧ way ≤ 2
      · rw [decide_eq_true hw]
        obtain ⟨x, rfl⟩ := Int.eq_ofNat_of_zero_le hf.1
        obtain ⟨y, rfl⟩ := Int.eq_ofNat_of_zero_le (show 0 ≤ den by omega)
        obtain ⟨z, rfl⟩ := Int.eq_ofNat_of_zero_le hw.1
        have J := scale_j0 (num := x) (den := y) (way := z) hm (by omega) (by omega) (by omega) (by omega) (k := k) (by omega)
        refine Eq.trans J ?_
        have hok : okS s n (x : Int) (y : Int) (z : Int) := ⟨hm, hf, hw⟩
        by_cases hq : qR n.natAbs x y z ≤ 1099511627776
        · rw [if_pos hq, scaleS_yes hok hq]; rfl
        · rw [if_neg hq, scaleS_no (fun h => hq h.2)]
      · rw [decide_eq_false hw, scaleS_no (fun h => hw h.1.2.2)]
        exact no way
    · rw [decide_eq_false hf, if_neg (by simp), scaleS_no (fun h => hf h.1.2.1)]
      exact no way
  · rw [if_neg hm, scaleS_no (fun h => hm h.1.1)]
    exact no way
end Go.Proofs.YtggjphcikcflkaaDoor.Pure
