/- How many days are worked on: what the program's function and the reference's come to, in plain Lean. -/
import Derived.Test.YtpmclpblnhjjeaaDoorPureWalk
import Derived.Test.YtpmclpblnhjjeaaDoorPx15
namespace Go.Proofs.YtpmclpblnhjjeaaDoor.Pure
open Go.RowKit Go.Proofs.YtpmclpblnhjjeaaDoor.P Go.Proofs.YtpmclpblnhjjeaaDoorW.PrintWords Go.Proofs.YtpmclpblnhjjeaaDoorW.PrintLast

/-! Days by their weekday alone. -/
/-- How many numbers below it aren't in a list. -/
def nin (R : List Int) : Nat → Nat
  | 0 => 0
  | n + 1 => nin R n + (if (n : Int) ∈ R then 0 else 1)
/-- How many days below it don't rest by their weekday. -/
def nr (R : List Int) : Nat → Nat
  | 0 => 0
  | n + 1 => nr R n + (if ((n % 7 : Nat) : Int) ∈ R then 0 else 1)
theorem nin_cons {h : Int} {t : List Int} (hn : ¬ h ∈ t) (n : Nat) : nin (h :: t) n + (if 0 ≤ h ∧ h < n then 1 else 0) = nin t n := by
  induction n with
  | zero =>
    rw [if_neg (by omega)]; rfl
  | succ n ih =>
    simp only [nin]
    by_cases e : (n : Int) = h
    · have e2 : (n : Int) ∈ h :: t := by rw [e]; exact List.mem_cons_self
      have e3 : ¬ (n : Int) ∈ t := by rw [e]; exact hn
      rw [if_pos e2, if_neg e3, if_pos (by omega)]
      rw [if_neg (by omega)] at ih
      omega
    · have e2 : (n : Int) ∈ h :: t ↔ (n : Int) ∈ t := by
        rw [List.mem_cons]; exact ⟨fun x => x.resolve_left e, .inr⟩
      have e3 : (0 ≤ h ∧ h < ((n + 1 : Nat) : Int)) ↔ (0 ≤ h ∧ h < (n : Int)) := by omega
      by_cases c : (n : Int) ∈ t
      · rw [if_pos (e2.2 c), if_pos c]
        by_cases g : 0 ≤ h ∧ h < (n : Int)
        · rw [if_pos (e3.2 g)]; rw [if_pos g] at ih; omega
        · rw [if_neg (fun z => g (e3.1 z))]; rw [if_neg g] at ih; omega
      · rw [if_neg (fun z => c (e2.1 z)), if_neg c]
        by_cases g : 0 ≤ h ∧ h < (n : Int)
        · rw [if_pos (e3.2 g)]; rw [if_pos g] at ih; omega
        · rw [if_neg (fun z => g (e3.1 z))]; rw [if_neg g] at ih; omega
theorem nin_nil (n : Nat) : nin [] n = n := by
  induction n with
  | zero => rfl
  | succ n ih => simp only [nin]; rw [ih]; simp
theorem nin_len {R : List Int} (n : Nat) (hb : ∀ x ∈ R, 0 ≤ x ∧ x < n) (hp : R.Pairwise (· < ·)) : nin R n + R.length = n := by
  induction R with
  | nil => rw [nin_nil]; rfl
  | cons h t ih =>
    rw [List.pairwise_cons] at hp
    have hn : ¬ h ∈ t := fun hm => by have := hp.1 h hm; omega
    have g := nin_cons hn n
    rw [if_pos (hb h List.mem_cons_self)] at g
    have := ih (fun x hx => hb x (List.mem_cons_of_mem _ hx)) hp.2
    rw [List.length_cons]
    omega
theorem nr_eq {R : List Int} (hb : ∀ x ∈ R, 0 ≤ x ∧ x ≤ 6) (hp : R.Pairwise (· < ·)) (n : Nat) : nr R n = n / 7 * (7 - R.length) + nin R (n % 7) := by
  have h7 := nin_len 7 (fun x hx => ⟨(hb x hx).1, by have := (hb x hx).2; omega⟩) hp
  induction n with
  | zero => simp [nr, nin]
  | succ n ih =>
    simp only [nr]
    rw [ih]
    by_cases c : n % 7 = 6
    · have e1 : (n + 1) / 7 = n / 7 + 1 := by omega
      have e2 : (n + 1) % 7 = 0 := by omega
      rw [e1, e2, c, Nat.add_mul]
      have e3 : nin R 7 = nin R 6 + (if ((6 : Nat) : Int) ∈ R then 0 else 1) := rfl
      have e4 : nin R 0 = 0 := rfl
      rw [e4, Nat.one_mul]
      generalize n / 7 * (7 - R.length) = p
      generalize (if ((6 : Nat) : Int) ∈ R then 0 else 1) = q at e3 ⊢
      omega
    · have e1 : (n + 1) / 7 = n / 7 := by omega
      have e2 : (n + 1) % 7 = n % 7 + 1 := by omega
      rw [e1, e2]
      simp only [nin]
      omega
/-- The holidays below a day that don't rest by their weekday. -/
def hc (R : List Int) (x : Nat) : List Int → Nat
  | [] => 0
  | h :: t => (if h < (x : Int) ∧ ¬ Int.tmod h 7 ∈ R then 1 else 0) + hc R x t
theorem hc_zero (R H : List Int) (hb : ∀ x ∈ H, 0 ≤ x) : hc R 0 H = 0 := by
  induction H with
  | nil => rfl
  | cons h t ih =>
    simp only [hc]
    have := hb h List.mem_cons_self
    rw [if_neg (by omega), ih fun x hx => hb x (List.mem_cons_of_mem _ hx)]
theorem hc_next (R H : List Int) (hp : H.Pairwise (· < ·)) (x : Nat) : hc R (x + 1) H = hc R x H + (if (x : Int) ∈ H ∧ ¬ Int.tmod (x : Int) 7 ∈ R then 1 else 0) := by
  induction H with
  | nil => simp [hc]
  | cons h t ih =>
    rw [List.pairwise_cons] at hp
    have ih := ih hp.2
    simp only [hc]
    rw [ih]
    by_cases e : h = (x : Int)
    · have hn : ¬ (x : Int) ∈ t := fun hm => by have := hp.1 _ hm; omega
      have e2 : (x : Int) ∈ h :: t := by rw [← e]; exact List.mem_cons_self
      rw [if_neg (show ¬ ((x : Int) ∈ t ∧ ¬ Int.tmod (x : Int) 7 ∈ R) from fun z => hn z.1), e]
      rw [e] at e2
      by_cases c : Int.tmod (x : Int) 7 ∈ R
      · rw [if_neg (fun z => z.2 c), if_neg (fun z => z.2 c), if_neg (fun z => z.2 c)]; omega
      · rw [if_pos ⟨by omega, c⟩, if_neg (show ¬ ((x : Int) < (x : Int) ∧ ¬ Int.tmod (x : Int) 7 ∈ R) by omega), if_pos ⟨e2, c⟩]; omega
    · have e2 : (x : Int) ∈ h :: t ↔ (x : Int) ∈ t := by
        rw [List.mem_cons]; exact ⟨fun z => z.resolve_left (fun q => e q.symm), .inr⟩
      have e3 : (h < ((x + 1 : Nat) : Int) ∧ ¬ Int.tmod h 7 ∈ R) ↔ (h < (x : Int) ∧ ¬ Int.tmod h 7 ∈ R) := by
        constructor
        · intro z; exact ⟨by omega, z.2⟩
        · intro z; exact ⟨by omega, z.2⟩
      simp only [e2, e3]
      omega
/-- WHAT IS COUNTED: by weekdays, less the holidays. -/
theorem wk_count (l0 l1 : List Int) (n : Nat) : wk l0 l1 n + hc (own0 l0 l1) n (own1 l0 l1) = nr (own0 l0 l1) n := by
  have hu := own1_up (l0 := l0) (l1 := l1)
  generalize ho : own0 l0 l1 = R
  generalize hh : own1 l0 l1 = H
  rw [hh] at hu
  induction n with
  | zero => rw [hc_zero R H fun x hx => (hu.1 x hx).1]; rfl
  | succ n ih =>
    simp only [wk, nr]
    rw [hc_next R H hu.2 n, ho, hh]
    have e : Int.tmod (n : Int) 7 = ((n % 7 : Nat) : Int) := by rw [Int.tmod_eq_emod_of_nonneg (by omega)]; rfl
    unfold restD
    rw [e]
    by_cases c : ((n % 7 : Nat) : Int) ∈ R
    · simp only [c, decide_true, Bool.true_or, not_true_eq_false, and_false, ↓reduceIte]
      omega
    · by_cases d : (n : Int) ∈ H
      · simp only [c, d, decide_true, decide_false, Bool.or_true, not_false_eq_true, and_self, ↓reduceIte]
        omega
      · simp only [c, d, decide_false, Bool.or_self, Bool.false_eq_true, false_and, ↓reduceIte]
        omega

/-! The program's count. -/
theorem hc_le (R : List Int) (x : Nat) (H : List Int) : hc R x H ≤ H.length := by
  induction H with
  | nil => exact Nat.le_refl _
  | cons h t ih =>
    simp only [hc, List.length_cons]
    split <;> omega
theorem ahead_l1 (R H : List Int) (hR : R.length ≤ 1000) (hH : H.length ≤ 1000) (x : Nat) (d : Nat) : ∀ i : Nat, i ≤ H.length → H.length - i = d → ∀ n : Int, -1000000000 ≤ n - ((d : Nat) : Int) → n ≤ 1000000000 → ∀ k, d + 1002 ≤ k →
    day_ahead.l1 k (x : Int) n H (H.length : Int) (i : Int) R H = some (n - (hc R x (H.drop i) : Int)) := by
  induction d with
  | zero =>
    intro i hi hd n h1 h2 k hk
    obtain ⟨k, rfl⟩ : ∃ j, k = j + 1 := ⟨k - 1, by omega⟩
    simp only [day_ahead.l1]
    rw [if_neg (by omega), List.drop_of_length_le (by omega)]
    simp [hc]
  | succ d ih =>
    intro i hi hd n h1 h2 k hk
    obtain ⟨k, rfl⟩ : ∃ j, k = j + 1 := ⟨k - 1, by omega⟩
    have hlt : i < H.length := by omega
    have c1 : (i : Int) < (H.length : Int) := by omega
    have c2 : (0 : Int) ≤ (i : Int) := by omega
    simp only [day_ahead.l1, c1, c2, ↓reduceIte]
    rw [rd_at hlt, List.drop_eq_getElem_cons hlt, wrap_next (by omega)]
    simp only [hc]
    have hle := hc_le R x (H.drop (i + 1))
    rw [List.length_drop] at hle
    by_cases c3 : H[i] < (x : Int)
    · rw [if_pos c3, contains_eq R _ hR k (by omega), Option.bind_some]
      by_cases c4 : Int.tmod H[i] 7 ∈ R
      · rw [decide_eq_true c4, if_pos rfl, if_neg (fun z => z.2 c4), ih (i + 1) (by omega) (by omega) n (by omega) h2 k (by omega)]
        congr 1; omega
      · rw [decide_eq_false c4, if_neg (by simp), if_pos ⟨c3, c4⟩, wrap_in (by omega) (by omega), ih (i + 1) (by omega) (by omega) (n - 1) (by omega) (by omega) k (by omega)]
        congr 1; omega
    · rw [if_neg c3, if_neg (fun z => c3 z.1), ih (i + 1) (by omega) (by omega) n (by omega) h2 k (by omega)]
      congr 1; omega
theorem ahead_l0 (R H : List Int) (hR : R.length ≤ 1000) (hH : H.length ≤ 1000) (x m : Nat) (hm : m ≤ 6) (d : Nat) : ∀ i : Nat, i ≤ m → m - i = d → ∀ n : Nat, n ≤ 100000000 + i → ∀ k, d + 2010 ≤ k →
    day_ahead.l0 k (x : Int) (n : Int) (m : Int) (i : Int) R H = some ((n : Int) + ((nin R m - nin R i : Nat) : Int) - (hc R x H : Int)) := by
  induction d with
  | zero =>
    intro i hi hd n hn k hk
    obtain rfl : i = m := by omega
    obtain ⟨k, rfl⟩ : ∃ j, k = j + 1 := ⟨k - 1, by omega⟩
    simp only [day_ahead.l0]
    have := ahead_l1 R H hR hH x H.length 0 (by omega) (by omega) (n : Int) (by omega) (by omega) k (by omega)
    rw [List.drop_zero] at this
    rw [if_neg (by omega), Nat.sub_self]
    have t2 : day_ahead.l1 k (x : Int) (n : Int) H (H.length : Int) 0 R H = _ := this
    rw [t2, Int.natCast_zero, Int.add_zero]
  | succ d ih =>
    intro i hi hd n hn k hk
    obtain ⟨k, rfl⟩ : ∃ j, k = j + 1 := ⟨k - 1, by omega⟩
    simp only [day_ahead.l0]
    rw [if_pos (by omega), contains_eq R _ hR k (by omega), Option.bind_some, wrap_next (show i < 4611686018427387904 by omega)]
    have hs : nin R (i + 1) = nin R i + (if (i : Int) ∈ R then 0 else 1) := rfl
    have hmo : ∀ d a, nin R a ≤ nin R (a + d) := by
      intro d a
      induction d with
      | zero => exact Nat.le_refl _
      | succ d ih => exact Nat.le_trans ih (Nat.le_add_right _ _)
    have hmo2 := hmo (m - (i + 1)) (i + 1)
    rw [show i + 1 + (m - (i + 1)) = m by omega] at hmo2
    by_cases c : (i : Int) ∈ R
    · rw [decide_eq_true c, if_pos rfl, ih (i + 1) (by omega) (by omega) n (by omega) k (by omega)]
      rw [if_pos c] at hs
      congr 1; omega
    · rw [decide_eq_false c, if_neg (by simp), wrap_next (show n < 4611686018427387904 by omega), ih (i + 1) (by omega) (by omega) (n + 1) (by omega) k (by omega)]
      rw [if_neg c] at hs
      congr 1; omega
end Go.Proofs.YtpmclpblnhjjeaaDoor.Pure
