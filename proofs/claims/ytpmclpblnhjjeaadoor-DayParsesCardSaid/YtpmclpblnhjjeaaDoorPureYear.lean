/- Years and months: what the program's functions and the reference's come to, in plain Lean. -/
import Derived.Test.YtpmclpblnhjjeaaDoorPureBase
import Derived.Test.YtpmclpblnhjjeaaDoorPx11
namespace Go.Proofs.YtpmclpblnhjjeaaDoor.Pure
open Go.RowKit Go.Proofs.YtpmclpblnhjjeaaDoor.P Go.Proofs.YtpmclpblnhjjeaaDoorW.PrintWords Go.Proofs.YtpmclpblnhjjeaaDoorW.PrintLast

/-- Has the year so many after 2000 a day more? -/
def lp (n : Nat) : Bool := if (2000 + n) % 4 = 0 then (if (2000 + n) % 100 = 0 then decide ((2000 + n) % 400 = 0) else true) else decide ((2000 + n) % 400 = 0)
def yl (n : Nat) : Nat := if lp n = true then 366 else 365
/-- The days of the month, from 0 on. -/
def mlen (b : Bool) (m : Nat) : Nat := [31, if b = true then 29 else 28, 31, 30, 31, 30, 31, 31, 30, 31, 30, 31].getD m 0
/-- The days ahead of the month. -/
def cum (b : Bool) : Nat → Nat
  | 0 => 0
  | m + 1 => cum b m + mlen b m
/-- The days ahead of the year. -/
def first : Nat → Nat
  | 0 => 0
  | n + 1 => first n + yl n
theorem cum_12 (n : Nat) : cum (lp n) 12 = yl n := by unfold yl; cases lp n <;> rfl
theorem mlen_low (b : Bool) (m : Nat) (h : m < 12) : 28 ≤ mlen b m ∧ mlen b m ≤ 31 := by
  revert b
  have : ∀ m : Fin 12, ∀ b : Bool, 28 ≤ mlen b m.val ∧ mlen b m.val ≤ 31 := by decide
  exact this ⟨m, h⟩
theorem cum_low (b : Bool) (m : Nat) (h : m < 13) : cum b m ≤ 366 := by
  revert b
  have : ∀ m : Fin 13, ∀ b : Bool, cum b m.val ≤ 366 := by decide
  exact this ⟨m, h⟩
theorem yl_low (n : Nat) : 365 ≤ yl n ∧ yl n ≤ 366 := by unfold yl; split <;> omega
theorem first_low (n : Nat) : 365 * n ≤ first n ∧ first n ≤ 366 * n := by
  induction n with
  | zero => simp [first]
  | succ n ih => have := yl_low n; simp only [first]; omega
theorem tmod_nat (a b : Nat) : Int.tmod (a : Int) (b : Int) = ((a % b : Nat) : Int) := by
  rw [Int.tmod_eq_emod_of_nonneg (by omega)]; rfl
theorem tdiv_nat (a b : Nat) : Int.tdiv (a : Int) (b : Int) = ((a / b : Nat) : Int) := by
  rw [Int.tdiv_eq_ediv_of_nonneg (by omega)]; rfl
theorem leap_eq (n : Nat) : day_leap.f ((2000 + n : Nat) : Int) = some (lp n) := by
  unfold day_leap.f lp
  rw [show (4 : Int) = ((4 : Nat) : Int) from rfl, show (100 : Int) = ((100 : Nat) : Int) from rfl, show (400 : Int) = ((400 : Nat) : Int) from rfl, tmod_nat, tmod_nat, tmod_nat]
  generalize (2000 + n) % 4 = a
  generalize (2000 + n) % 100 = b
  generalize (2000 + n) % 400 = c
  have hc : (((c : Nat) : Int) == 0) = decide (c = 0) := by
    by_cases h : c = 0
    · simp [h]
    · simp [h]
  by_cases h4 : a = 0
  · rw [if_pos (by omega), if_pos h4]
    by_cases h1 : b = 0
    · rw [if_pos (by omega), if_pos h1, hc]
    · rw [if_neg (by omega), if_neg h1]
  · rw [if_neg (by omega), if_neg h4, hc]
theorem refLeap_eq (n : Nat) : supercargoref02_Leap.f ((2000 + n : Nat) : Int) = some (lp n) := leap_eq n
theorem days_eq (n : Nat) : day_days.f ((2000 + n : Nat) : Int) = some (yl n : Int) := by
  unfold day_days.f yl
  rw [leap_eq, Option.bind_some]
  cases lp n <;> rfl
theorem refYear_eq (n : Nat) : supercargoref02_Year.f ((2000 + n : Nat) : Int) = some (yl n : Int) := days_eq n
theorem month_eq (n : Nat) (m : Nat) (h : m < 12) : day_month.f ((2000 + n : Nat) : Int) (m : Int) = some (mlen (lp n) m : Int) := by
  unfold day_month.f
  rw [if_pos (by omega), leap_eq]
  have : ∀ m : Fin 12, ∀ b : Bool, (if ((m.val : Nat) : Int) = 1 then (some b).bind fun t => some (if t = true then (29 : Int) else 28) else some (monthsTab.getD ((m.val : Nat) : Int).toNat 0)) = some (mlen b m.val : Int) := by decide
  exact this ⟨m, h⟩ (lp n)
theorem refDays_eq (n : Nat) (m : Nat) (h : m < 12) {k : Nat} (hk : 1 ≤ k) : supercargoref02_Days.f k ((2000 + n : Nat) : Int) ((m + 1 : Nat) : Int) = some (mlen (lp n) m : Int) := by
  obtain ⟨k, rfl⟩ : ∃ j, k = j + 1 := ⟨k - 1, by omega⟩
  unfold supercargoref02_Days.f
  rw [refLeap_eq]
  simp only [supercargoref02_Days.j0]
  have : ∀ m : Fin 12, ∀ b : Bool, (if ((m.val + 1 : Nat) : Int) = 2 then (some b).bind fun t181 => (if t181 = true then some 29 else (if ((m.val + 1 : Nat) : Int) = 2 then (some 28) else (if ((m.val + 1 : Nat) : Int) = 4 then (some 30) else (if ((m.val + 1 : Nat) : Int) = 6 then (some 30) else (if ((m.val + 1 : Nat) : Int) = 9 then (some 30) else (if ((m.val + 1 : Nat) : Int) = 11 then (some 30) else (some 31))))))) else (if false = true then some 29 else (if ((m.val + 1 : Nat) : Int) = 2 then (some 28) else (if ((m.val + 1 : Nat) : Int) = 4 then (some 30) else (if ((m.val + 1 : Nat) : Int) = 6 then (some 30) else (if ((m.val + 1 : Nat) : Int) = 9 then (some 30) else (if ((m.val + 1 : Nat) : Int) = 11 then (some 30) else (some 31)))))))) = some (mlen b m.val : Int) := by decide
  exact this ⟨m, h⟩ (lp n)

/-! Of a day its year, its month, and its day of the month. -/
theorem month_l1 (n : Nat) (_ : n ≤ 2000000) (d : Nat) : ∀ m x : Nat, m ≤ 11 → 11 - m = d → x + cum (lp n) m < yl n → ∃ m' r : Nat, m' < 12 ∧ r < mlen (lp n) m' ∧ cum (lp n) m + x = cum (lp n) m' + r ∧
    ∀ k, d + 2 ≤ k → day_Month.l1 k (x : Int) ((2000 + n : Nat) : Int) (m : Int) = some (((2000 + n : Nat) : Int), ((m' + 1 : Nat) : Int), ((r + 1 : Nat) : Int)) ∧
      supercargoref02_Month.l1 k (x : Int) ((2000 + n : Nat) : Int) ((m + 1 : Nat) : Int) = some (((2000 + n : Nat) : Int), ((m' + 1 : Nat) : Int), ((r + 1 : Nat) : Int)) := by
  induction d with
  | zero =>
    intro m x hm hd hx
    obtain rfl : m = 11 := by omega
    have h12 := cum_12 n
    have hlt : x < mlen (lp n) 11 := by
      have : cum (lp n) 12 = cum (lp n) 11 + mlen (lp n) 11 := rfl
      omega
    have hml := mlen_low (lp n) 11 (by omega)
    refine ⟨11, x, by omega, hlt, rfl, fun k hk => ?_⟩
    obtain ⟨k, rfl⟩ : ∃ j, k = j + 1 := ⟨k - 1, by omega⟩
    simp only [day_Month.l1, supercargoref02_Month.l1]
    rw [month_eq n 11 (by omega), refDays_eq n 11 (by omega) (by omega)]
    simp only [Option.bind_some]
    rw [if_neg (show ¬ (x : Int) ≥ (mlen (lp n) 11 : Int) by omega), if_neg (show ¬ (x : Int) ≥ (mlen (lp n) 11 : Int) by omega), wrap_next (by omega), wrap_next (by omega)]
    exact ⟨rfl, rfl⟩
  | succ d ih =>
    intro m x hm hd hx
    have hml := mlen_low (lp n) m (by omega)
    have hyl := yl_low n
    rcases Nat.lt_or_ge x (mlen (lp n) m) with hlt | hge
    · refine ⟨m, x, by omega, hlt, rfl, fun k hk => ?_⟩
      obtain ⟨k, rfl⟩ : ∃ j, k = j + 1 := ⟨k - 1, by omega⟩
      simp only [day_Month.l1, supercargoref02_Month.l1]
      rw [month_eq n m (by omega), refDays_eq n m (by omega) (by omega)]
      simp only [Option.bind_some]
      rw [if_neg (show ¬ (x : Int) ≥ (mlen (lp n) m : Int) by omega), if_neg (show ¬ (x : Int) ≥ (mlen (lp n) m : Int) by omega), wrap_next (by omega), wrap_next (by omega)]
      exact ⟨rfl, rfl⟩
    · have hc : cum (lp n) (m + 1) = cum (lp n) m + mlen (lp n) m := rfl
      obtain ⟨m', r, h1, h2, h3, h4⟩ := ih (m + 1) (x - mlen (lp n) m) (by omega) (by omega) (by omega)
      refine ⟨m', r, h1, h2, by omega, fun k hk => ?_⟩
      obtain ⟨k, rfl⟩ : ∃ j, k = j + 1 := ⟨k - 1, by omega⟩
      obtain ⟨g1, g2⟩ := h4 k (by omega)
      simp only [day_Month.l1, supercargoref02_Month.l1]
      rw [month_eq n m (by omega), refDays_eq n m (by omega) (by omega)]
      simp only [Option.bind_some]
      rw [if_pos (show (x : Int) ≥ (mlen (lp n) m : Int) by omega), if_pos (show (x : Int) ≥ (mlen (lp n) m : Int) by omega), show wrap64 ((x : Int) - (mlen (lp n) m : Int)) = ((x - mlen (lp n) m : Nat) : Int) by (rw [wrap_in (by omega) (by omega)]; omega), wrap_next (by omega), wrap_next (by omega)]
      exact ⟨g1, g2⟩
theorem month_l0 (d : Nat) : ∀ n x : Nat, x ≤ d → n + x ≤ 2000000 → ∃ y m r : Nat, m < 12 ∧ r < mlen (lp y) m ∧ first n + x = first y + cum (lp y) m + r ∧
    ∀ k, d + 20 ≤ k → day_Month.l0 k (x : Int) ((2000 + n : Nat) : Int) = some (((2000 + y : Nat) : Int), ((m + 1 : Nat) : Int), ((r + 1 : Nat) : Int)) ∧
      supercargoref02_Month.l0 k (x : Int) ((2000 + n : Nat) : Int) = some (((2000 + y : Nat) : Int), ((m + 1 : Nat) : Int), ((r + 1 : Nat) : Int)) := by
  have stay : ∀ d n x : Nat, x < yl n → n ≤ 2000000 → ∃ y m r : Nat, m < 12 ∧ r < mlen (lp y) m ∧ first n + x = first y + cum (lp y) m + r ∧
    ∀ k, d + 20 ≤ k → day_Month.l0 k (x : Int) ((2000 + n : Nat) : Int) = some (((2000 + y : Nat) : Int), ((m + 1 : Nat) : Int), ((r + 1 : Nat) : Int)) ∧
      supercargoref02_Month.l0 k (x : Int) ((2000 + n : Nat) : Int) = some (((2000 + y : Nat) : Int), ((m + 1 : Nat) : Int), ((r + 1 : Nat) : Int)) := by
    intro d n x hx hn
    obtain ⟨m, r, h1, h2, h3, h4⟩ := month_l1 n hn 11 0 x (by omega) rfl (by simpa [cum] using hx)
    refine ⟨n, m, r, h1, h2, by simp only [cum] at h3; omega, fun k hk => ?_⟩
    obtain ⟨k, rfl⟩ : ∃ j, k = j + 1 := ⟨k - 1, by omega⟩
    simp only [day_Month.l0, supercargoref02_Month.l0]
    rw [days_eq, refYear_eq]
    simp only [Option.bind_some]
    rw [if_neg (show ¬ (x : Int) ≥ (yl n : Int) by omega), if_neg (show ¬ (x : Int) ≥ (yl n : Int) by omega)]
    exact h4 k (by omega)
  induction d with
  | zero =>
    intro n x hx hn
    exact stay 0 n x (by have := yl_low n; omega) (by omega)
  | succ d ih =>
    intro n x hx hn
    have hyl := yl_low n
    rcases Nat.lt_or_ge x (yl n) with hlt | hge
    · exact stay (d + 1) n x hlt (by omega)
    · obtain ⟨y, m, r, h1, h2, h3, h4⟩ := ih (n + 1) (x - yl n) (by omega) (by omega)
      refine ⟨y, m, r, h1, h2, by simp only [first] at h3; omega, fun k hk => ?_⟩
      obtain ⟨k, rfl⟩ : ∃ j, k = j + 1 := ⟨k - 1, by omega⟩
      obtain ⟨g1, g2⟩ := h4 k (by omega)
      simp only [day_Month.l0, supercargoref02_Month.l0]
      rw [days_eq, refYear_eq]
      simp only [Option.bind_some]
      rw [if_pos (show (x : Int) ≥ (yl n : Int) by omega), if_pos (show (x : Int) ≥ (yl n : Int) by omega), show wrap64 ((x : Int) - (yl n : Int)) = ((x - yl n : Nat) : Int) by (rw [wrap_in (by omega) (by omega)]; omega), wrap_next (by omega)]
      exact ⟨g1, g2⟩
/-- OF A DAY ITS YEAR, ITS MONTH, AND ITS DAY OF THE MONTH: by both the same. -/
theorem Month_eq {x : Nat} (hx : x ≤ 1048576) : ∃ y m r : Nat, m < 12 ∧ r < mlen (lp y) m ∧ x = first y + cum (lp y) m + r ∧
    ∀ k, 1048600 ≤ k → day_Month.f k (x : Int) = some (((2000 + y : Nat) : Int), ((m + 1 : Nat) : Int), ((r + 1 : Nat) : Int)) ∧
      supercargoref02_Month.f k (x : Int) = some (((2000 + y : Nat) : Int), ((m + 1 : Nat) : Int), ((r + 1 : Nat) : Int)) := by
  obtain ⟨y, m, r, h1, h2, h3, h4⟩ := month_l0 1048576 0 x hx (by omega)
  refine ⟨y, m, r, h1, h2, by simp only [first] at h3; omega, fun k hk => ?_⟩
  have g := h4 k (by omega)
  unfold day_Month.f supercargoref02_Month.f
  have : isDay (x : Int) = true := by unfold isDay; simp; omega
  rw [is_eq, this, Option.bind_some, if_pos rfl]
  exact g
theorem Month_no {x : Int} (hx : isDay x = false) (k : Nat) : day_Month.f k x = some (0, 0, 0) := by
  unfold day_Month.f
  rw [is_eq, hx]; rfl

/-! The day of a year, a month, and a day of the month. -/
theorem of_l0 (n : Nat) (hn : n ≤ 100000) (m : Nat) (d : Nat) : ∀ z s : Nat, z ≤ n → n - z = d → s ≤ 100 + first z → ∀ k j, d + 1 + j ≤ k → ∃ k', j ≤ k' ∧ day_of.l0 k ((2000 + n : Nat) : Int) (m : Int) (s : Int) ((2000 + z : Nat) : Int) = day_of.l1 k' ((2000 + n : Nat) : Int) ((s + (first n - first z) : Nat) : Int) (m : Int) 0 := by
  induction d with
  | zero =>
    intro z s hz hd hs k j hk
    obtain rfl : z = n := by omega
    obtain ⟨k, rfl⟩ : ∃ j, k = j + 1 := ⟨k - 1, by omega⟩
    refine ⟨k, by omega, ?_⟩
    simp only [day_of.l0]
    rw [if_neg (by omega), Nat.sub_self, Nat.add_zero]
  | succ d ih =>
    intro z s hz hd hs k j hk
    obtain ⟨k, rfl⟩ : ∃ j, k = j + 1 := ⟨k - 1, by omega⟩
    have hf : first (z + 1) = first z + yl z := rfl
    have hm : ∀ d a, first a ≤ first (a + d) := by
      intro d a
      induction d with
      | zero => exact Nat.le_refl _
      | succ d ih => exact Nat.le_trans ih (by show first (a + d) ≤ first (a + d) + yl (a + d); omega)
    have hmn : first (z + 1) ≤ first n := by
      have := hm (n - (z + 1)) (z + 1)
      rwa [show z + 1 + (n - (z + 1)) = n by omega] at this
    have hy := yl_low z
    have hl := first_low z
    obtain ⟨k', h1, h2⟩ := ih (z + 1) (s + yl z) (by omega) (by omega) (by omega) k j (by omega)
    refine ⟨k', h1, ?_⟩
    simp only [day_of.l0]
    rw [if_pos (by omega), days_eq, Option.bind_some, show wrap64 ((s : Int) + (yl z : Int)) = ((s + yl z : Nat) : Int) by (rw [wrap_in (by omega) (by omega)]; omega), wrap_next (by omega)]
    rw [show 2000 + z + 1 = 2000 + (z + 1) by omega, h2]
    congr 1
    omega
theorem first_mono {a b : Nat} (h : a ≤ b) : first a ≤ first b := by
  have hm : ∀ d a, first a ≤ first (a + d) := by
    intro d a
    induction d with
    | zero => exact Nat.le_refl _
    | succ d ih => exact Nat.le_trans ih (by show first (a + d) ≤ first (a + d) + yl (a + d); omega)
  have := hm (b - a) a
  rwa [show a + (b - a) = b by omega] at this
theorem cum_mono {b : Bool} {m m' : Nat} (h : m ≤ m') : cum b m ≤ cum b m' := by
  have hm : ∀ d a, cum b a ≤ cum b (a + d) := by
    intro d a
    induction d with
    | zero => exact Nat.le_refl _
    | succ d ih => exact Nat.le_trans ih (by show cum b (a + d) ≤ cum b (a + d) + mlen b (a + d); omega)
  have := hm (m' - m) m
  rwa [show m + (m' - m) = m' by omega] at this
theorem of_l1 (n : Nat) (m : Nat) (hm : m < 12) (d : Nat) : ∀ z s : Nat, z ≤ m → m - z = d → s ≤ 100000000 + 31 * z → ∀ k, d + 1 ≤ k → day_of.l1 k ((2000 + n : Nat) : Int) (s : Int) (m : Int) (z : Int) = some (((s + (cum (lp n) m - cum (lp n) z) : Nat) : Int), isDay ((s + (cum (lp n) m - cum (lp n) z) : Nat) : Int)) := by
  induction d with
  | zero =>
    intro z s hz hd hs k hk
    obtain rfl : z = m := by omega
    obtain ⟨k, rfl⟩ : ∃ j, k = j + 1 := ⟨k - 1, by omega⟩
    simp only [day_of.l1]
    rw [if_neg (by omega), Nat.sub_self, Nat.add_zero, is_eq]
    rfl
  | succ d ih =>
    intro z s hz hd hs k hk
    obtain ⟨k, rfl⟩ : ∃ j, k = j + 1 := ⟨k - 1, by omega⟩
    have hc : cum (lp n) (z + 1) = cum (lp n) z + mlen (lp n) z := rfl
    have hmn := cum_mono (b := lp n) (show z + 1 ≤ m by omega)
    have hl := mlen_low (lp n) z (by omega)
    have h2 := ih (z + 1) (s + mlen (lp n) z) (by omega) (by omega) (by omega) k (by omega)
    simp only [day_of.l1]
    rw [if_pos (by omega), month_eq n z (by omega), Option.bind_some, show wrap64 ((s : Int) + (mlen (lp n) z : Int)) = ((s + mlen (lp n) z : Nat) : Int) by (rw [wrap_in (by omega) (by omega)]; omega), wrap_next (by omega), h2]
    rw [show s + mlen (lp n) z + (cum (lp n) m - cum (lp n) (z + 1)) = s + (cum (lp n) m - cum (lp n) z) by omega]
/-- THE DAY of a year, a month and a day of the month. -/
theorem of_eq {n m r : Nat} (hn : n ≤ 100000) (hm : m < 12) (hr : r < mlen (lp n) m) {k : Nat} (hk : 100100 ≤ k) : day_of.f k ((2000 + n : Nat) : Int) (m : Int) ((r + 1 : Nat) : Int) = some (((first n + cum (lp n) m + r : Nat) : Int), isDay ((first n + cum (lp n) m + r : Nat) : Int)) := by
  obtain ⟨k, rfl⟩ : ∃ j, k = j + 1 := ⟨k - 1, by omega⟩
  have hl := mlen_low (lp n) m hm
  have hf := first_low n
  unfold day_of.f
  rw [if_neg (by omega), if_neg (by omega), if_neg (by omega), if_neg (by omega), month_eq n m hm, Option.bind_some, decide_eq_false (show ¬ ((r + 1 : Nat) : Int) > (mlen (lp n) m : Int) by omega)]
  simp only [day_of.j0]
  rw [if_neg (by simp), show wrap64 (((r + 1 : Nat) : Int) - 1) = (r : Int) by (rw [wrap_in (by omega) (by omega)]; omega)]
  obtain ⟨k', h1, h2⟩ := of_l0 n hn m n 0 r (by omega) (by omega) (by simp only [first]; omega) k 20 (by omega)
  have h2' : day_of.l0 k ((2000 + n : Nat) : Int) (m : Int) (r : Int) 2000 = day_of.l1 k' ((2000 + n : Nat) : Int) ((r + (first n - first 0) : Nat) : Int) (m : Int) 0 := h2
  rw [h2']
  have h3 := of_l1 n m hm m 0 (r + (first n - first 0)) (by omega) (by omega) (by simp only [first]; omega) k' (by omega)
  have h3' : day_of.l1 k' ((2000 + n : Nat) : Int) ((r + (first n - first 0) : Nat) : Int) (m : Int) 0 = _ := h3
  rw [h3']
  simp only [first, cum]
  rw [show r + (first n - 0) + (cum (lp n) m - 0) = first n + cum (lp n) m + r by omega]
theorem of_no {y m r : Int} (hy : y < 2000) {k : Nat} (hk : 1 ≤ k) : day_of.f k y m r = some (0, false) := by
  obtain ⟨k, rfl⟩ : ∃ j, k = j + 1 := ⟨k - 1, by omega⟩
  unfold day_of.f
  rw [if_pos hy]; rfl
theorem refFirst_l0 (n : Nat) (hn : n ≤ 100000) (d : Nat) : ∀ z : Nat, z ≤ n → n - z = d → ∀ k, d + 1 ≤ k → supercargoref02_First.l0 k ((2000 + n : Nat) : Int) (first z : Int) ((2000 + z : Nat) : Int) = some (first n : Int) := by
  induction d with
  | zero =>
    intro z hz hd k hk
    obtain rfl : z = n := by omega
    obtain ⟨k, rfl⟩ : ∃ j, k = j + 1 := ⟨k - 1, by omega⟩
    simp only [supercargoref02_First.l0]
    rw [if_neg (by omega)]
  | succ d ih =>
    intro z hz hd k hk
    obtain ⟨k, rfl⟩ : ∃ j, k = j + 1 := ⟨k - 1, by omega⟩
    have hf : first (z + 1) = first z + yl z := rfl
    have hl := first_low z
    have hy := yl_low z
    have h2 := ih (z + 1) (by omega) (by omega) k (by omega)
    simp only [supercargoref02_First.l0]
    rw [if_pos (by omega), refYear_eq, Option.bind_some, show wrap64 ((first z : Int) + (yl z : Int)) = (first (z + 1) : Int) by (rw [wrap_in (by omega) (by omega)]; omega), wrap_next (by omega)]
    exact h2
theorem refDay_l0 (n : Nat) (m : Nat) (hm : m < 12) (d : Nat) : ∀ z s : Nat, z ≤ m → m - z = d → s ≤ 100000000 + 31 * z → ∀ k, d + 2 ≤ k → supercargoref02_Day.l0 k ((2000 + n : Nat) : Int) ((m + 1 : Nat) : Int) (s : Int) ((z + 1 : Nat) : Int) = some (((s + (cum (lp n) m - cum (lp n) z) : Nat) : Int), isDay ((s + (cum (lp n) m - cum (lp n) z) : Nat) : Int)) := by
  induction d with
  | zero =>
    intro z s hz hd hs k hk
    obtain rfl : z = m := by omega
    obtain ⟨k, rfl⟩ : ∃ j, k = j + 1 := ⟨k - 1, by omega⟩
    simp only [supercargoref02_Day.l0]
    rw [if_neg (by omega), Nat.sub_self, Nat.add_zero, refIs_eq]
    rfl
  | succ d ih =>
    intro z s hz hd hs k hk
    obtain ⟨k, rfl⟩ : ∃ j, k = j + 1 := ⟨k - 1, by omega⟩
    have hc : cum (lp n) (z + 1) = cum (lp n) z + mlen (lp n) z := rfl
    have hmn := cum_mono (b := lp n) (show z + 1 ≤ m by omega)
    have hl := mlen_low (lp n) z (by omega)
    have h2 := ih (z + 1) (s + mlen (lp n) z) (by omega) (by omega) (by omega) k (by omega)
    simp only [supercargoref02_Day.l0]
    rw [if_pos (by omega), refDays_eq n z (by omega) (by omega), Option.bind_some, show wrap64 ((s : Int) + (mlen (lp n) z : Int)) = ((s + mlen (lp n) z : Nat) : Int) by (rw [wrap_in (by omega) (by omega)]; omega), wrap_next (by omega), h2]
    rw [show s + mlen (lp n) z + (cum (lp n) m - cum (lp n) (z + 1)) = s + (cum (lp n) m - cum (lp n) z) by omega]
theorem refDay_eq {n m r : Nat} (hn : n ≤ 3000) (hm : m < 12) (hr : r < mlen (lp n) m) {k : Nat} (hk : 100100 ≤ k) : supercargoref02_Day.f k ((2000 + n : Nat) : Int) ((m + 1 : Nat) : Int) ((r + 1 : Nat) : Int) = some (((first n + cum (lp n) m + r : Nat) : Int), isDay ((first n + cum (lp n) m + r : Nat) : Int)) := by
  obtain ⟨k, rfl⟩ : ∃ j, k = j + 1 := ⟨k - 1, by omega⟩
  have hl := mlen_low (lp n) m hm
  have hf := first_low n
  unfold supercargoref02_Day.f
  rw [if_neg (by omega), if_neg (by omega), if_neg (by omega), if_neg (by omega), if_neg (by omega), refDays_eq n m hm (by omega), Option.bind_some, decide_eq_false (show ¬ ((r + 1 : Nat) : Int) > (mlen (lp n) m : Int) by omega)]
  simp only [supercargoref02_Day.j0]
  have h1 := refFirst_l0 n (by omega) n 0 (by omega) (by omega) k (by omega)
  have h1' : supercargoref02_First.f k ((2000 + n : Nat) : Int) = some (first n : Int) := h1
  rw [if_neg (by simp), h1', Option.bind_some, show wrap64 ((first n : Int) + ((r + 1 : Nat) : Int)) = ((first n + r + 1 : Nat) : Int) by (rw [wrap_in (by omega) (by omega)]; omega), show wrap64 (((first n + r + 1 : Nat) : Int) - 1) = ((first n + r : Nat) : Int) by (rw [wrap_in (by omega) (by omega)]; omega)]
  have h3 := refDay_l0 n m hm m 0 (first n + r) (by omega) (by omega) (by omega) k (by omega)
  have h3' : supercargoref02_Day.l0 k ((2000 + n : Nat) : Int) ((m + 1 : Nat) : Int) ((first n + r : Nat) : Int) 1 = _ := h3
  rw [h3']
  simp only [cum]
  rw [show first n + r + (cum (lp n) m - 0) = first n + cum (lp n) m + r by omega]
end Go.Proofs.YtpmclpblnhjjeaaDoor.Pure
