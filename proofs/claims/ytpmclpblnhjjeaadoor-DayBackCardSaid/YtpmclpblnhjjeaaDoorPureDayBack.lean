/- The plain law of DayBack. -/
import Derived.Test.YtpmclpblnhjjeaaDoorPureCount
import Derived.Test.YtpmclpblnhjjeaaDoorPureAdd
import Derived.Test.YtpmclpblnhjjeaaDoorPx17
namespace Go.Proofs.YtpmclpblnhjjeaaDoor.Pure
open Go.RowKit Go.Proofs.YtpmclpblnhjjeaaDoor.P Go.Proofs.YtpmclpblnhjjeaaDoorW.PrintWords Go.Proofs.YtpmclpblnhjjeaaDoorW.PrintLast
/-- What the n-th day on is like. -/
theorem on_l0 {l0 l1 : List Int} (h0 : l0.length ≤ 1000) (h1 : l1.length ≤ 1000) (d : Nat) : ∀ x n : Nat, 1048577 - x = d → 1 ≤ n → n ≤ 1000 → ∃ v : Int × Bool, (v.2 = false → v.1 = 0) ∧
    (v.2 = true → ∃ t : Nat, v.1 = (t : Int) ∧ x ≤ t ∧ t ≤ 1048576 ∧ restD (own0 l0 l1) (own1 l0 l1) (t : Int) = false ∧ wk l0 l1 (t + 1) = wk l0 l1 x + n) ∧
    ∀ k, d + 1002 ≤ k → day_along.l0 k (x : Int) (n : Int) 1 (own0 l0 l1) (own1 l0 l1) = some v := by
  induction d with
  | zero =>
    intro x n hd hn hn'
    refine ⟨(0, false), (fun _ => rfl), (fun h => by cases h), fun k hk => ?_⟩
    obtain ⟨k, rfl⟩ : ∃ j, k = j + 1 := ⟨k - 1, by omega⟩
    exact along_out (isDay_far (by omega)) _ _
  | succ d ih =>
    intro x n hd hn hn'
    have hx : isDay (x : Int) = true := isDay_iff.2 (by omega)
    have hw : wk l0 l1 (x + 1) = wk l0 l1 x + (if restD (own0 l0 l1) (own1 l0 l1) (x : Int) = true then 0 else 1) := rfl
    by_cases hr : restD (own0 l0 l1) (own1 l0 l1) (x : Int) = true
    · rw [if_pos hr] at hw
      obtain ⟨v, v1, v2, v3⟩ := ih (x + 1) n (by omega) hn hn'
      refine ⟨v, v1, fun h => ?_, fun k hk => ?_⟩
      · obtain ⟨t, t1, t2, t3, t4, t5⟩ := v2 h
        exact ⟨t, t1, by omega, t3, t4, by omega⟩
      · obtain ⟨k, rfl⟩ : ∃ j, k = j + 1 := ⟨k - 1, by omega⟩
        rw [along_step h0 h1 hx (by omega) (by omega) 1 (by omega), if_pos hr, wrap_next (show x < 4611686018427387904 by omega)]
        exact v3 k (by omega)
    · rw [if_neg hr] at hw
      by_cases c : n = 1
      · refine ⟨((x : Int), true), (fun h => by cases h), fun _ => ⟨x, rfl, by omega, by omega, by simpa using hr, by omega⟩, fun k hk => ?_⟩
        obtain ⟨k, rfl⟩ : ∃ j, k = j + 1 := ⟨k - 1, by omega⟩
        rw [along_step h0 h1 hx (by omega) (by omega) 1 (by omega), if_neg hr, if_pos (by omega)]
      · obtain ⟨v, v1, v2, v3⟩ := ih (x + 1) (n - 1) (by omega) (by omega) (by omega)
        refine ⟨v, v1, fun h => ?_, fun k hk => ?_⟩
        · obtain ⟨t, t1, t2, t3, t4, t5⟩ := v2 h
          exact ⟨t, t1, by omega, t3, t4, by omega⟩
        · obtain ⟨k, rfl⟩ : ∃ j, k = j + 1 := ⟨k - 1, by omega⟩
          rw [along_step h0 h1 hx (by omega) (by omega) 1 (by omega), if_neg hr, if_neg (by omega), wrap_next (show x < 4611686018427387904 by omega), show (n : Int) - 1 = ((n - 1 : Nat) : Int) by omega]
          exact v3 k (by omega)
/-- And back: to the day that is worked on, with so many between. -/
theorem back_l0 {l0 l1 : List Int} (h0 : l0.length ≤ 1000) (h1 : l1.length ≤ 1000) (b : Nat) (hb : restD (own0 l0 l1) (own1 l0 l1) (b : Int) = false) (d : Nat) : ∀ x n : Nat, b ≤ x → x - b = d → x ≤ 1048576 → n ≤ 1000 → wk l0 l1 (x + 1) = wk l0 l1 b + n →
    ∀ k, d + 1003 ≤ k → day_along.l0 k (x : Int) (n : Int) (-1) (own0 l0 l1) (own1 l0 l1) = some ((b : Int), true) := by
  have hwb : wk l0 l1 (b + 1) = wk l0 l1 b + (if restD (own0 l0 l1) (own1 l0 l1) (b : Int) = true then 0 else 1) := rfl
  rw [if_neg (by rw [hb]; simp)] at hwb
  induction d with
  | zero =>
    intro x n hx hd hx' hn hw k hk
    obtain rfl : x = b := by omega
    have hdy : isDay (x : Int) = true := isDay_iff.2 (by omega)
    obtain ⟨k, rfl⟩ : ∃ j, k = j + 1 := ⟨k - 1, by omega⟩
    rw [along_step h0 h1 hdy (by omega) (by omega) (-1) (by omega), if_neg (by rw [hb]; simp), if_pos (by omega)]
  | succ d ih =>
    intro x n hx hd hx' hn hw k hk
    have hdy : isDay (x : Int) = true := isDay_iff.2 (by omega)
    have hwx : wk l0 l1 (x + 1) = wk l0 l1 x + (if restD (own0 l0 l1) (own1 l0 l1) (x : Int) = true then 0 else 1) := rfl
    have hm := wk_mono l0 l1 (show b + 1 ≤ x by omega)
    have e : x - 1 + 1 = x := by omega
    have hs : wrap64 ((x : Int) + -1) = ((x - 1 : Nat) : Int) := by rw [wrap_in (by omega) (by omega)]; omega
    obtain ⟨k, rfl⟩ : ∃ j, k = j + 1 := ⟨k - 1, by omega⟩
    by_cases hr : restD (own0 l0 l1) (own1 l0 l1) (x : Int) = true
    · rw [if_pos hr] at hwx
      rw [along_step h0 h1 hdy (by omega) (by omega) (-1) (by omega), if_pos hr, hs]
      exact ih (x - 1) n (by omega) (by omega) (by omega) hn (by rw [e]; omega) k (by omega)
    · rw [if_neg hr] at hwx
      rw [along_step h0 h1 hdy (by omega) (by omega) (-1) (by omega), if_neg hr, if_neg (by omega), hs, show (n : Int) - 1 = ((n - 1 : Nat) : Int) by omega]
      exact ih (x - 1) (n - 1) (by omega) (by omega) (by omega) (by omega) (by rw [e]; omega) k (by omega)
theorem btw_nat (l0 l1 : List Int) {a b : Nat} (h : a ≤ b) (hb : b ≤ 1048577) : btw l0 l1 (a : Int) (b : Int) = wk l0 l1 b - wk l0 l1 a := by
  unfold btw lo hi
  rw [show max (min ((b : Int)).toNat 1048577) ((a : Int)).toNat = b by omega, show ((a : Int)).toNat = a by omega]
theorem Works_eq {l0 l1 : List Int} (h0 : l0.length ≤ 1000) (h1 : l1.length ≤ 1000) (x : Int) {k : Nat} (hk : 1001 ≤ k) : supercargoref02_Works.f k l0 l1 x = some (isDay x && !restD (own0 l0 l1) (own1 l0 l1) x) := by
  unfold supercargoref02_Works.f
  rw [refIs_eq, Option.bind_some, refRests_eq h0 h1 x hk]
  unfold restsD
  cases isDay x <;> rfl
theorem DayBack (l0 l1 : List Int) (x n : Int) (_ : (Lit.int .i64 x).wf = true) (_ : (Lit.int .i64 n).wf = true) : ∃ k, supercargolaw02_DayBack.f k l0 l1 x n = some true := by
  refine ⟨2000000, ?_⟩
  unfold supercargolaw02_DayBack.f
  rw [awake_eq (by omega), Option.bind_some, if_pos rfl, heavy_eq, Option.bind_some]
  have skip : supercargolaw02_DayBack.j0 2000000 x n true l0 l1 = some true := by
    rw [show (2000000 : Nat) = 1999999 + 1 from rfl]
    simp only [supercargolaw02_DayBack.j0, ↓reduceIte]
  rw [skip]
  cases hh : heavy l0 l1
  · obtain ⟨h0, h1⟩ := heavy_no hh
    rw [if_neg (by simp)]
    by_cases c1 : n < 1
    · rw [if_pos c1]
    · rw [if_neg c1]
      by_cases c2 : n > 300
      · rw [if_pos c2]
      · rw [if_neg c2, Works_eq (by omega) (by omega) x (by omega), Option.bind_some]
        cases hx : isDay x
        · exact skip
        · cases hr : restD (own0 l0 l1) (own1 l0 l1) x
          · rw [show (!(true && !false)) = false from rfl]
            obtain ⟨b, rfl⟩ : ∃ b : Nat, x = (b : Int) := ⟨x.toNat, by have := isDay_iff.1 hx; omega⟩
            obtain ⟨m, rfl⟩ : ∃ m : Nat, n = (m : Int) := ⟨n.toNat, by omega⟩
            have hb := isDay_iff.1 hx
            have hwb : wk l0 l1 (b + 1) = wk l0 l1 b + (if restD (own0 l0 l1) (own1 l0 l1) (b : Int) = true then 0 else 1) := rfl
            rw [if_neg (by rw [hr]; simp)] at hwb
            obtain ⟨v, v1, v2, v3⟩ := on_l0 (l0 := l0) (l1 := l1) (by omega) (by omega) (1048577 - (b + 1)) (b + 1) m rfl (by omega) (by omega)
            have hA : day_Add.f 1999999 l0 l1 (b : Int) (m : Int) = some v := by
              rw [Add_eq (k := 1999998) hx (by omega) (by omega), if_neg (by omega), if_neg (by omega), along_eq (by omega) (by omega) _ _ _ (by omega), wrap_next (show b < 4611686018427387904 by omega)]
              exact v3 1999998 (by omega)
            rw [show (2000000 : Nat) = 1999999 + 1 from rfl]
            simp only [supercargolaw02_DayBack.j0]
            rw [if_neg (by simp), hA, Option.bind_some]
            cases hv : v.2
            · rw [if_neg (by simp), v1 hv]; rfl
            · rw [if_pos rfl]
              obtain ⟨t, t1, t2, t3, t4, t5⟩ := v2 hv
              rw [t1]
              have hwt : wk l0 l1 (t + 1) = wk l0 l1 t + (if restD (own0 l0 l1) (own1 l0 l1) (t : Int) = true then 0 else 1) := rfl
              rw [if_neg (by rw [t4]; simp)] at hwt
              have ht : isDay (t : Int) = true := isDay_iff.2 (by omega)
              have hB : day_Add.f 1999999 l0 l1 (t : Int) (wrap64 (-(m : Int))) = some ((b : Int), true) := by
                have e : wrap64 (-(m : Int)) = -(m : Int) := wrap_in (by omega) (by omega)
                have e2 : wrap64 (- -(m : Int)) = (m : Int) := by rw [wrap_in (by omega) (by omega)]; omega
                rw [e, Add_eq (k := 1999998) ht (by omega) (by omega), if_neg (by omega), if_pos (by omega), along_eq (by omega) (by omega) _ _ _ (by omega), e2, show wrap64 ((t : Int) + -1) = ((t - 1 : Nat) : Int) by (rw [wrap_in (by omega) (by omega)]; omega)]
                exact back_l0 (by omega) (by omega) b hr (t - 1 - b) (t - 1) m (by omega) rfl (by omega) (by omega) (by rw [show t - 1 + 1 = t by omega]; omega) 1999998 (by omega)
              rw [hB, Option.bind_some]
              simp only [↓reduceIte]
              rw [if_pos (by omega), Rests_eq (by omega) (by omega) _ (by omega), Option.bind_some]
              have hq : restsD l0 l1 (t : Int) = false := by unfold restsD; rw [t4, Bool.and_false]
              rw [hq, if_neg (by simp), Between_eq (by omega) (by omega) _ _ (by omega), Option.bind_some, btw_nat l0 l1 (by omega) (by omega), if_pos (by omega), wrap_next (show b < 4611686018427387904 by omega), wrap_next (show t < 4611686018427387904 by omega), Between_eq (by omega) (by omega) _ _ (by omega), Option.bind_some, btw_nat l0 l1 (by omega) (by omega)]
              rw [show (1999999 : Nat) = 1999998 + 1 from rfl]
              simp only [supercargolaw02_DayBack.j1]
              rw [show (((wk l0 l1 (t + 1) - wk l0 l1 (b + 1) : Nat) : Int) == (m : Int)) = true by (rw [beq_iff_eq]; omega)]
          · exact skip
  · rw [if_pos rfl]
end Go.Proofs.YtpmclpblnhjjeaaDoor.Pure
