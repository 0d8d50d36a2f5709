/- The n-th day that is worked on, on or back: what the program's function and the reference's come to, in plain Lean. -/
import Derived.Test.YtpmclpblnhjjeaaDoorPureAwake
import Derived.Test.YtpmclpblnhjjeaaDoorPx5
import Derived.Test.YtpmclpblnhjjeaaDoorPx11
namespace Go.Proofs.YtpmclpblnhjjeaaDoor.Pure
open Go.RowKit Go.Proofs.YtpmclpblnhjjeaaDoor.P Go.Proofs.YtpmclpblnhjjeaaDoorW.PrintWords Go.Proofs.YtpmclpblnhjjeaaDoorW.PrintLast

/-- How many days below it are worked on. -/
def wk (l0 l1 : List Int) : Nat → Nat
  | 0 => 0
  | n + 1 => wk l0 l1 n + (if restD (own0 l0 l1) (own1 l0 l1) (n : Int) = true then 0 else 1)
theorem wk_mono (l0 l1 : List Int) {a b : Nat} (h : a ≤ b) : wk l0 l1 a ≤ wk l0 l1 b := by
  have hm : ∀ d a, wk l0 l1 a ≤ wk l0 l1 (a + d) := by
    intro d a
    induction d with
    | zero => exact Nat.le_refl _
    | succ d ih => exact Nat.le_trans ih (Nat.le_add_right _ _)
  have := hm (b - a) a
  rwa [show a + (b - a) = b by omega] at this
theorem walk_step {l0 l1 : List Int} (h0 : l0.length ≤ 1000) (h1 : l1.length ≤ 1000) {x : Int} (hx : isDay x = true) (n s : Int) {k : Nat} (hk : 1001 ≤ k) :
    supercargoref02_Walk.l0 (k + 1) s n x l0 l1 = if restD (own0 l0 l1) (own1 l0 l1) x = true then supercargoref02_Walk.l0 k s n (wrap64 (x + s)) l0 l1 else if wrap64 (n - 1) = 0 then some (x, true) else supercargoref02_Walk.l0 k s (wrap64 (n - 1)) (wrap64 (x + s)) l0 l1 := by
  simp only [supercargoref02_Walk.l0]
  rw [refIs_eq, hx, Option.bind_some, if_pos rfl, refRests_eq h0 h1 x hk, Option.bind_some]
  unfold restsD
  rw [hx, Bool.true_and]
theorem walk_out {l0 l1 : List Int} {x : Int} (hx : isDay x = false) (n s : Int) {k : Nat} : supercargoref02_Walk.l0 (k + 1) s n x l0 l1 = some (0, false) := by
  simp only [supercargoref02_Walk.l0]
  rw [refIs_eq, hx]; rfl
theorem along_step {l0 l1 : List Int} (h0 : l0.length ≤ 1000) (h1 : l1.length ≤ 1000) {x : Int} (hx : isDay x = true) {n : Int} (hn : 1 ≤ n) (hn' : n ≤ 9223372036854775807) (s : Int) {k : Nat} (hk : 1001 ≤ k) :
    day_along.l0 (k + 1) x n s (own0 l0 l1) (own1 l0 l1) = if restD (own0 l0 l1) (own1 l0 l1) x = true then day_along.l0 k (wrap64 (x + s)) n s (own0 l0 l1) (own1 l0 l1) else if n - 1 = 0 then some (x, true) else day_along.l0 k (wrap64 (x + s)) (n - 1) s (own0 l0 l1) (own1 l0 l1) := by
  have g0 := own0_len l0 l1
  have g1 := own1_len l0 l1
  have e := rests_eq (l0 := own0 l0 l1) (l1 := own1 l0 l1) (by omega) (by omega) own1_up.2 x hk
  simp only [day_along.l0]
  rw [is_eq, hx, Option.bind_some, if_pos rfl, e, Option.bind_some, if_pos (show n > 0 by omega), show wrap64 (n - 1) = n - 1 from wrap_in (by omega) (by omega)]
  by_cases hr : restD (own0 l0 l1) (own1 l0 l1) x = true
  · rw [if_pos hr, if_pos hr]
  · rw [if_neg hr, if_neg hr]
    by_cases hq : n - 1 = 0
    · rw [if_neg (by omega), if_pos hq]
    · rw [if_pos (by omega), if_neg hq]
theorem along_out {l0 l1 : List Int} {x : Int} (hx : isDay x = false) (n s : Int) {k : Nat} : day_along.l0 (k + 1) x n s l0 l1 = some (0, false) := by
  simp only [day_along.l0]
  rw [is_eq, hx]; rfl
theorem isDay_far {x : Int} (h : x < 0 ∨ 1048576 < x) : isDay x = false := by
  unfold isDay
  rcases h with h | h
  · rw [decide_eq_false (show ¬ (0 : Int) ≤ x by omega)]; rfl
  · rw [decide_eq_false (show ¬ x ≤ 1048576 by omega), Bool.and_false]
theorem isDay_iff {x : Int} : isDay x = true ↔ 0 ≤ x ∧ x ≤ 1048576 := by unfold isDay; simp
/-- Both walk alike. -/
theorem walk_l0 {l0 l1 : List Int} (h0 : l0.length ≤ 1000) (h1 : l1.length ≤ 1000) (d : Nat) : ∀ x n s : Int, (s = 1 ∧ 1048577 - x ≤ d ∨ s = -1 ∧ x + 1 ≤ d) → ∃ v, ∀ k, d + 1002 ≤ k →
    supercargoref02_Walk.l0 k s n x l0 l1 = some v ∧ (1 ≤ n → n ≤ 9223372036854775807 → day_along.l0 k x n s (own0 l0 l1) (own1 l0 l1) = some v) := by
  have out : ∀ d : Nat, ∀ x n s : Int, isDay x = false → ∃ v, ∀ k, d + 1002 ≤ k →
    supercargoref02_Walk.l0 k s n x l0 l1 = some v ∧ (1 ≤ n → n ≤ 9223372036854775807 → day_along.l0 k x n s (own0 l0 l1) (own1 l0 l1) = some v) := by
    intro d x n s hx
    refine ⟨(0, false), fun k hk => ?_⟩
    obtain ⟨k, rfl⟩ : ∃ j, k = j + 1 := ⟨k - 1, by omega⟩
    exact ⟨walk_out hx n s, fun _ _ => along_out hx n s⟩
  induction d with
  | zero =>
    intro x n s hs
    exact out 0 x n s (isDay_far (by omega))
  | succ d ih =>
    intro x n s hs
    cases hx : isDay x
    · exact out _ x n s hx
    · have hx' := isDay_iff.1 hx
      have hw : wrap64 (x + s) = x + s := by rcases hs with h | h <;> exact wrap_in (by omega) (by omega)
      by_cases hr : restD (own0 l0 l1) (own1 l0 l1) x = true
      · obtain ⟨v, hv⟩ := ih (x + s) n s (by omega)
        refine ⟨v, fun k hk => ?_⟩
        obtain ⟨k, rfl⟩ : ∃ j, k = j + 1 := ⟨k - 1, by omega⟩
        obtain ⟨g1, g2⟩ := hv k (by omega)
        refine ⟨?_, fun a b => ?_⟩
        · rw [walk_step h0 h1 hx n s (by omega), if_pos hr, hw, g1]
        · rw [along_step h0 h1 hx a b s (by omega), if_pos hr, hw, g2 a b]
      · by_cases hn : wrap64 (n - 1) = 0
        · refine ⟨(x, true), fun k hk => ?_⟩
          obtain ⟨k, rfl⟩ : ∃ j, k = j + 1 := ⟨k - 1, by omega⟩
          refine ⟨?_, fun a b => ?_⟩
          · rw [walk_step h0 h1 hx n s (by omega), if_neg hr, if_pos hn]
          · rw [along_step h0 h1 hx a b s (by omega), if_neg hr, if_pos (by rw [wrap_in (by omega) (by omega)] at hn; exact hn)]
        · obtain ⟨v, hv⟩ := ih (x + s) (wrap64 (n - 1)) s (by omega)
          refine ⟨v, fun k hk => ?_⟩
          obtain ⟨k, rfl⟩ : ∃ j, k = j + 1 := ⟨k - 1, by omega⟩
          obtain ⟨g1, g2⟩ := hv k (by omega)
          refine ⟨?_, fun a b => ?_⟩
          · rw [walk_step h0 h1 hx n s (by omega), if_neg hr, if_neg hn, hw, g1]
          · have hw2 : wrap64 (n - 1) = n - 1 := wrap_in (by omega) (by omega)
            rw [hw2] at g2 hn
            rw [along_step h0 h1 hx a b s (by omega), if_neg hr, if_neg hn, hw, g2 (by omega) (by omega)]
/-- All rest: there is none. -/
theorem along_none {l0 l1 : List Int} (h0 : l0.length ≤ 1000) (h1 : l1.length ≤ 1000) (ha : ∀ x, isDay x = true → restD (own0 l0 l1) (own1 l0 l1) x = true) (d : Nat) : ∀ x n s : Int, 1 ≤ n → n ≤ 9223372036854775807 → (s = 1 ∧ 1048577 - x ≤ d ∨ s = -1 ∧ x + 1 ≤ d) → ∀ k, d + 1002 ≤ k →
    day_along.l0 k x n s (own0 l0 l1) (own1 l0 l1) = some (0, false) := by
  induction d with
  | zero =>
    intro x n s _ _ hs k hk
    obtain ⟨k, rfl⟩ : ∃ j, k = j + 1 := ⟨k - 1, by omega⟩
    exact along_out (isDay_far (by omega)) n s
  | succ d ih =>
    intro x n s a b hs k hk
    obtain ⟨k, rfl⟩ : ∃ j, k = j + 1 := ⟨k - 1, by omega⟩
    cases hx : isDay x
    · exact along_out hx n s
    · have hx' := isDay_iff.1 hx
      have hw : wrap64 (x + s) = x + s := by rcases hs with h | h <;> exact wrap_in (by omega) (by omega)
      rw [along_step h0 h1 hx a b s (by omega), if_pos (ha x hx), hw]
      exact ih (x + s) n s a b (by omega) k (by omega)
theorem seven {l : List Int} (hl : l.length = 7) (hb : ∀ x ∈ l, 0 ≤ x ∧ x ≤ 6) (hp : l.Pairwise (· < ·)) {x : Int} (hx : 0 ≤ x) (hx' : x ≤ 6) : x ∈ l := by
  match l, hl with
  | [a, b, c, d, e, f, g], _ =>
    simp only [List.mem_cons, List.not_mem_nil, or_false, forall_eq_or_imp, forall_eq] at hb ⊢
    simp only [List.pairwise_cons, List.mem_cons, List.not_mem_nil, or_false, forall_eq_or_imp, forall_eq] at hp
    omega
theorem along_eq {l0 l1 : List Int} (h0 : l0.length ≤ 1000) (h1 : l1.length ≤ 1000) (x n s : Int) {k : Nat} (hk : 1001 ≤ k) : day_along.f k l0 l1 x n s = day_along.l0 k x n s (own0 l0 l1) (own1 l0 l1) := by
  unfold day_along.f
  rw [own_eq h0 h1 hk]; rfl
/-- THE N-TH DAY: by both the same. -/
theorem Walk_eq {l0 l1 : List Int} (h0 : l0.length ≤ 1000) (h1 : l1.length ≤ 1000) (x n s : Int) (it : Bool) (hx : isDay x = true) (hs : s = 1 ∨ s = -1) : ∃ v, ∀ k, 1050000 ≤ k →
    supercargoref02_Walk.f k l0 l1 x s n it = some v ∧ (1 ≤ n → n ≤ 9223372036854775807 → day_along.f k l0 l1 (if it = true then x else wrap64 (x + s)) n s = some v) := by
  have hx' := isDay_iff.1 hx
  have hw : wrap64 (x + s) = x + s := by rcases hs with h | h <;> exact wrap_in (by omega) (by omega)
  rw [hw]
  generalize hy : (if it = true then x else x + s) = y
  have hy' : (s = 1 ∧ 1048577 - y ≤ (1048578 : Nat) ∨ s = -1 ∧ y + 1 ≤ (1048578 : Nat)) := by cases it <;> simp only [↓reduceIte, Bool.false_eq_true] at hy <;> omega
  by_cases h7 : may l0 l1 = true ∧ l0.length = 7
  · refine ⟨(0, false), fun k hk => ⟨?_, fun a b => ?_⟩⟩
    · obtain ⟨k, rfl⟩ : ∃ j, k = j + 1 := ⟨k - 1, by omega⟩
      unfold supercargoref02_Walk.f
      rw [refMay_eq h0 h1 (by omega), Option.bind_some, if_pos h7.1]
      simp only [supercargoref02_Walk.j0]
      rw [if_pos (by simp [h7.2])]
    · rw [along_eq h0 h1 _ n s (by omega)]
      refine along_none h0 h1 (fun z hz => ?_) 1048578 y n s a b hy' k (by omega)
      have hz' := isDay_iff.1 hz
      unfold restD
      have ho : own0 l0 l1 = l0 := by unfold own0; rw [if_pos h7.1]
      have hu := own0_up (l0 := l0) (l1 := l1)
      rw [ho] at hu ⊢
      have ht : Int.tmod z 7 = z % 7 := Int.tmod_eq_emod_of_nonneg hz'.1
      have := seven h7.2 hu.1 hu.2 (x := Int.tmod z 7) (by omega) (by omega)
      rw [decide_eq_true this, Bool.true_or]
  · obtain ⟨v, hv⟩ := walk_l0 h0 h1 1048578 y n s hy'
    refine ⟨v, fun k hk => ⟨?_, fun a b => ?_⟩⟩
    · obtain ⟨k, rfl⟩ : ∃ j, k = j + 1 := ⟨k - 1, by omega⟩
      unfold supercargoref02_Walk.f
      rw [refMay_eq h0 h1 (by omega), Option.bind_some]
      have e7 : (if may l0 l1 = true then (supercargoref02_Walk.j0 (k + 1) x s n it ((l0.length : Int) == 7) l0 l1) else (supercargoref02_Walk.j0 (k + 1) x s n it false l0 l1)) = supercargoref02_Walk.j0 (k + 1) x s n it false l0 l1 := by
        by_cases hm : may l0 l1 = true
        · rw [if_pos hm]
          have : ¬ l0.length = 7 := fun h => h7 ⟨hm, h⟩
          rw [show ((l0.length : Int) == 7) = false by (rw [beq_eq_false_iff_ne]; omega)]
        · rw [if_neg hm]
      rw [e7]
      simp only [supercargoref02_Walk.j0]
      rw [if_neg (by simp), hw]
      obtain ⟨k, rfl⟩ : ∃ j, k = j + 1 := ⟨k - 1, by omega⟩
      simp only [supercargoref02_Walk.j1]
      have := (hv k (by omega)).1
      rw [← hy] at this
      cases it
      · rw [if_neg (by simp)]; simpa using this
      · rw [if_pos rfl]; simpa using this
    · rw [along_eq h0 h1 _ n s (by omega)]
      exact (hv k (by omega)).2 a b
end Go.Proofs.YtpmclpblnhjjeaaDoor.Pure
