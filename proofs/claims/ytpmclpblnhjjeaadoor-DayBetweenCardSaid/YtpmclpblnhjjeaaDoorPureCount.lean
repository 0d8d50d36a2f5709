/- How many days are worked on: what the program's function and the reference's come to, in plain Lean. -/
import Derived.Test.YtpmclpblnhjjeaaDoorPureDays
namespace Go.Proofs.YtpmclpblnhjjeaaDoor.Pure
open Go.RowKit Go.Proofs.YtpmclpblnhjjeaaDoor.P Go.Proofs.YtpmclpblnhjjeaaDoorW.PrintWords Go.Proofs.YtpmclpblnhjjeaaDoorW.PrintLast

theorem len7 {R : List Int} (hb : ∀ x ∈ R, 0 ≤ x ∧ x ≤ 6) (hp : R.Pairwise (· < ·)) : R.length ≤ 7 := by
  have h7 := nin_len 7 (fun x hx => ⟨(hb x hx).1, by have := (hb x hx).2; omega⟩) hp
  omega
theorem ar1 {p : Nat} (h : p ≤ 1048577) : p ≤ 100000000 + 0 := Nat.le_trans h (by decide)
theorem ar2 (x : Nat) : x % 7 ≤ 6 := by omega
theorem ar4 {k x : Nat} (h : 2020 ≤ k) : x % 7 + 2010 ≤ k := by omega
theorem ar5 {a b p c : Nat} (h : a + b = p + c) : (p : Int) + (c : Int) - (b : Int) = (a : Int) := by omega
theorem ar6 {x m : Nat} (hx : x ≤ 1048577) (hm : m ≤ 7) : x / 7 * m ≤ 1048577 := Nat.le_trans (Nat.mul_le_mul_left _ hm) (by omega)
theorem ar7 {q : Nat} (h : q ≤ 1048577) : wrap64 (q : Int) = (q : Int) := wrap_in (by omega) (by omega)
theorem ar8 {r : Nat} (h : r ≤ 7) : wrap64 (7 - (r : Int)) = ((7 - r : Nat) : Int) := by rw [wrap_in (by omega) (by omega)]; omega
theorem ar9 {x : Nat} (h : x ≤ 1048577) : x / 7 ≤ 1048577 := by omega
theorem tdiv7 (x : Nat) : Int.tdiv (x : Int) 7 = ((x / 7 : Nat) : Int) := by rw [Int.tdiv_eq_ediv_of_nonneg (by omega)]; rfl
theorem tmod7 (x : Nat) : Int.tmod (x : Int) 7 = ((x % 7 : Nat) : Int) := by rw [Int.tmod_eq_emod_of_nonneg (by omega)]; rfl
theorem ahead_own {R H : List Int} (hR : R.length ≤ 7) (hH : H.length ≤ 1000) {x w : Nat} (hx : x ≤ 1048577) (hw : w + hc R x H = x / 7 * (7 - R.length) + nin R (x % 7)) {k : Nat} (hk : 2020 ≤ k) : day_ahead.f k R H (x : Int) = some (w : Int) := by
  unfold day_ahead.f
  rw [tdiv7, tmod7, ar7 (ar9 hx), ar8 hR, ← Int.natCast_mul, ar7 (ar6 hx (Nat.sub_le _ _))]
  have h1 := ahead_l0 R H (Nat.le_trans hR (by decide)) hH x (x % 7) (ar2 x) (x % 7) 0 (Nat.zero_le _) (Nat.sub_zero _) (x / 7 * (7 - R.length)) (ar1 (ar6 hx (Nat.sub_le _ _))) k (ar4 hk)
  have h2 : day_ahead.l0 k (x : Int) ((x / 7 * (7 - R.length) : Nat) : Int) ((x % 7 : Nat) : Int) 0 R H = _ := h1
  rw [h2]
  exact congrArg some (ar5 hw)
theorem ahead_eq {l0 l1 : List Int} (h1 : l1.length ≤ 1000) {x : Nat} (hx : x ≤ 1048577) {k : Nat} (hk : 2020 ≤ k) : day_ahead.f k (own0 l0 l1) (own1 l0 l1) (x : Int) = some (wk l0 l1 x : Int) := by
  have u0 := own0_up (l0 := l0) (l1 := l1)
  have hw := wk_count l0 l1 x
  rw [nr_eq u0.1 u0.2] at hw
  exact ahead_own (len7 u0.1 u0.2) (Nat.le_trans (own1_len l0 l1) h1) hx hw hk
/-- From where, and up to where, days are counted. -/
def lo (a : Int) : Nat := a.toNat
def hi (b : Int) : Nat := min b.toNat 1048577
/-- HOW MANY from a day on, up to a day. -/
def btw (l0 l1 : List Int) (a b : Int) : Nat := wk l0 l1 (max (hi b) (lo a)) - wk l0 l1 (lo a)
theorem wk_le (l0 l1 : List Int) (n : Nat) : wk l0 l1 n ≤ n := by
  induction n with
  | zero => exact Nat.le_refl _
  | succ n ih => simp only [wk]; split <;> omega
theorem Between_eq {l0 l1 : List Int} (h0 : l0.length ≤ 1000) (h1 : l1.length ≤ 1000) (a b : Int) {k : Nat} (hk : 2020 ≤ k) : day_Between.f k l0 l1 a b = some (btw l0 l1 a b : Int) := by
  unfold day_Between.f btw lo hi
  have e1 : mx a 0 = ((a.toNat : Nat) : Int) := by unfold mx; split <;> omega
  have e2 : mn b 1048577 = if b < 0 then b else ((min b.toNat 1048577 : Nat) : Int) := by unfold mn; repeat' split <;> omega
  rw [e1, e2]
  by_cases c : b < 0
  · rw [if_pos c, if_pos (by omega)]
    rw [show max (min b.toNat 1048577) a.toNat = a.toNat by omega, Nat.sub_self]; rfl
  · rw [if_neg c]
    by_cases d : ((min b.toNat 1048577 : Nat) : Int) ≤ ((a.toNat : Nat) : Int)
    · rw [if_pos d, show max (min b.toNat 1048577) a.toNat = a.toNat by omega, Nat.sub_self]; rfl
    · rw [if_neg d, own_eq h0 h1 (by omega), Option.bind_some]
      have e3 := ahead_eq (l0 := l0) h1 (x := min b.toNat 1048577) (by omega) (k := k) (by omega)
      have e4 := ahead_eq (l0 := l0) h1 (x := a.toNat) (by omega) (k := k) (by omega)
      have m := wk_mono l0 l1 (show a.toNat ≤ min b.toNat 1048577 by omega)
      have z := wk_le l0 l1 (min b.toNat 1048577)
      simp only []
      rw [e3, e4, Option.bind_some, Option.bind_some, show max (min b.toNat 1048577) a.toNat = min b.toNat 1048577 by omega, wrap_in (by omega) (by omega)]
      congr 1; omega
theorem refBetween_l0 {l0 l1 : List Int} (h0 : l0.length ≤ 1000) (h1 : l1.length ≤ 1000) (b : Nat) (hb : b ≤ 1048577) (d : Nat) : ∀ x n : Nat, x ≤ b → b - x = d → n ≤ x → ∀ k, d + 1010 ≤ k →
    supercargoref02_Between.l0 k (b : Int) (n : Int) (x : Int) l0 l1 = some ((n + (wk l0 l1 b - wk l0 l1 x) : Nat) : Int) := by
  induction d with
  | zero =>
    intro x n hx hd hn k hk
    obtain rfl : x = b := by omega
    obtain ⟨k, rfl⟩ : ∃ j, k = j + 1 := ⟨k - 1, by omega⟩
    simp only [supercargoref02_Between.l0]
    rw [if_neg (by omega), Nat.sub_self]; rfl
  | succ d ih =>
    intro x n hx hd hn k hk
    obtain ⟨k, rfl⟩ : ∃ j, k = j + 1 := ⟨k - 1, by omega⟩
    have hw : wk l0 l1 (x + 1) = wk l0 l1 x + (if restD (own0 l0 l1) (own1 l0 l1) (x : Int) = true then 0 else 1) := rfl
    have m := wk_mono l0 l1 (show x + 1 ≤ b by omega)
    have hd' : isDay (x : Int) = true := isDay_iff.2 (by omega)
    simp only [supercargoref02_Between.l0]
    rw [if_pos (by omega), refRests_eq h0 h1 _ (by omega), Option.bind_some, wrap_next (show x < 4611686018427387904 by omega), wrap_next (show n < 4611686018427387904 by omega)]
    unfold restsD
    rw [hd', Bool.true_and]
    by_cases c : restD (own0 l0 l1) (own1 l0 l1) (x : Int) = true
    · rw [if_pos c] at hw ⊢
      rw [ih (x + 1) n (by omega) (by omega) (by omega) k (by omega)]
      congr 2; omega
    · rw [if_neg c] at hw ⊢
      rw [ih (x + 1) (n + 1) (by omega) (by omega) (by omega) k (by omega)]
      congr 2; omega
theorem refBetween_no {l0 l1 : List Int} {b x : Int} (h : b ≤ x) (k : Nat) : supercargoref02_Between.l0 (k + 1) b 0 x l0 l1 = some 0 := by
  simp only [supercargoref02_Between.l0]
  rw [if_neg (by omega)]
theorem refBetween_eq {l0 l1 : List Int} (h0 : l0.length ≤ 1000) (h1 : l1.length ≤ 1000) (a b : Int) {k : Nat} (hk : 1050000 ≤ k) : supercargoref02_Between.f k l0 l1 a b = some (btw l0 l1 a b : Int) := by
  have key : ∀ x : Nat, x = a.toNat → supercargoref02_Between.j0 k (x : Int) b l0 l1 = some (btw l0 l1 a b : Int) := by
    intro x hx
    obtain ⟨k, rfl⟩ : ∃ j, k = j + 1 := ⟨k - 1, by omega⟩
    obtain ⟨k, rfl⟩ : ∃ j, k = j + 1 := ⟨k - 1, by omega⟩
    unfold btw lo hi
    simp only [supercargoref02_Between.j0]
    have t : ∀ y : Nat, y ≤ 1048577 → (y = min b.toNat 1048577) → supercargoref02_Between.j1 (k + 1) (x : Int) (y : Int) l0 l1 = some ((wk l0 l1 (max (min b.toNat 1048577) a.toNat) - wk l0 l1 a.toNat : Nat) : Int) := by
      intro y hy hyb
      simp only [supercargoref02_Between.j1]
      rw [← hyb, ← hx]
      by_cases c : x ≤ y
      · have := refBetween_l0 h0 h1 y hy (y - x) x 0 c rfl (by omega) k (by omega)
        have t2 : supercargoref02_Between.l0 k (y : Int) 0 (x : Int) l0 l1 = _ := this
        rw [t2, show max y x = y by omega]
        congr 2; omega
      · obtain ⟨k, rfl⟩ : ∃ j, k = j + 1 := ⟨k - 1, by omega⟩
        rw [refBetween_no (by omega), show max y x = x by omega, Nat.sub_self]; rfl
    by_cases c : b > 1048577
    · rw [if_pos c]
      exact t 1048577 (by omega) (by omega)
    · rw [if_neg c]
      by_cases d : b < 0
      · simp only [supercargoref02_Between.j1]
        obtain ⟨k, rfl⟩ : ∃ j, k = j + 1 := ⟨k - 1, by omega⟩
        rw [refBetween_no (by omega), show max (min b.toNat 1048577) a.toNat = a.toNat by omega, Nat.sub_self]; rfl
      · have := t b.toNat (by omega) (by omega)
        rwa [show ((b.toNat : Nat) : Int) = b by omega] at this
  unfold supercargoref02_Between.f
  by_cases c : a < 0
  · rw [if_pos c]
    exact key 0 (by omega)
  · rw [if_neg c]
    have := key a.toNat rfl
    rwa [show ((a.toNat : Nat) : Int) = a by omega] at this
theorem btw_add (l0 l1 : List Int) {a m b : Int} (h1 : a ≤ m) (h2 : m ≤ b) : btw l0 l1 a m + btw l0 l1 m b = btw l0 l1 a b := by
  unfold btw lo hi
  by_cases c : m.toNat ≤ 1048577
  · have e1 : max (min m.toNat 1048577) a.toNat = m.toNat := by omega
    have e2 : max (min b.toNat 1048577) m.toNat = max (min b.toNat 1048577) a.toNat := by omega
    rw [e1, e2]
    have := wk_mono l0 l1 (show a.toNat ≤ m.toNat by omega)
    have := wk_mono l0 l1 (show m.toNat ≤ max (min b.toNat 1048577) a.toNat by omega)
    omega
  · have e1 : max (min b.toNat 1048577) m.toNat = m.toNat := by omega
    have e2 : max (min b.toNat 1048577) a.toNat = max (min m.toNat 1048577) a.toNat := by omega
    rw [e1, e2]
    omega
end Go.Proofs.YtpmclpblnhjjeaaDoor.Pure
