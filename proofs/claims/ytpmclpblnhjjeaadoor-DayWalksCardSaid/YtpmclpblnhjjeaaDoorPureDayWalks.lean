/- The plain law of DayWalks. -/
import Derived.Test.YtpmclpblnhjjeaaDoorPureWalk
namespace Go.Proofs.YtpmclpblnhjjeaaDoor.Pure
open Go.RowKit Go.Proofs.YtpmclpblnhjjeaaDoor.P Go.Proofs.YtpmclpblnhjjeaaDoorW.PrintWords Go.Proofs.YtpmclpblnhjjeaaDoorW.PrintLast

theorem Next_eq {l0 l1 : List Int} (x : Int) (k : Nat) : day_Next.f k l0 l1 x = day_along.f k l0 l1 x 1 1 := by
  unfold day_Next.f
  cases day_along.f k l0 l1 x 1 1 <;> rfl
theorem Last_eq {l0 l1 : List Int} (x : Int) (k : Nat) : day_Last.f k l0 l1 x = day_along.f k l0 l1 x 1 (-1) := by
  unfold day_Last.f
  cases day_along.f k l0 l1 x 1 (-1) <;> rfl
theorem Add_no {l0 l1 : List Int} {x n : Int} (h : isDay x = false ∨ n < -1048576 ∨ n > 1048576) {k : Nat} : day_Add.f (k + 1) l0 l1 x n = some (0, false) := by
  unfold day_Add.f
  rw [is_eq, Option.bind_some]
  have j : day_Add.j0 (k + 1) x n true l0 l1 = some (0, false) := by simp only [day_Add.j0, ↓reduceIte]
  cases hd : isDay x
  · rw [if_neg (by simp), j]
  · rw [if_pos rfl]
    by_cases h1 : n < -1048576
    · rw [if_pos h1, j]
    · rw [if_neg h1, decide_eq_true (by rw [hd] at h; simp at h; omega), j]
theorem Add_eq {l0 l1 : List Int} {x n : Int} (hx : isDay x = true) (h1 : -1048576 ≤ n) (h2 : n ≤ 1048576) {k : Nat} : day_Add.f (k + 1) l0 l1 x n =
    if n = 0 then day_along.f k l0 l1 x 1 1 else if n < 0 then day_along.f k l0 l1 (wrap64 (x + -1)) (wrap64 (-n)) (-1) else day_along.f k l0 l1 (wrap64 (x + 1)) n 1 := by
  unfold day_Add.f
  rw [is_eq, Option.bind_some, hx, if_pos rfl, if_neg (by omega), decide_eq_false (by omega)]
  simp only [day_Add.j0]
  rw [if_neg (by simp), Next_eq, Int.sub_eq_add_neg]
  by_cases c : n = 0
  · rw [if_pos c, if_pos c]
    cases day_along.f k l0 l1 x 1 1 <;> rfl
  · rw [if_neg c, if_neg c]
    by_cases c2 : n < 0
    · rw [if_pos c2, if_pos c2]
      cases day_along.f k l0 l1 (wrap64 (x + -1)) (wrap64 (-n)) (-1) <;> rfl
    · rw [if_neg c2, if_neg c2]
      cases day_along.f k l0 l1 (wrap64 (x + 1)) n 1 <;> rfl
theorem DayWalks (l0 l1 : List Int) (x n : Int) (_ : (Lit.int .i64 x).wf = true) (hn : (Lit.int .i64 n).wf = true) : ∃ k, supercargolaw02_DayWalks.f k l0 l1 x n = some true := by
  have hn' : -9223372036854775808 ≤ n ∧ n ≤ 9223372036854775807 := by
    simp [Lit.wf] at hn
    exact ⟨Int.le_trans (by decide) hn.1, hn.2⟩
  refine ⟨2000000, ?_⟩
  unfold supercargolaw02_DayWalks.f
  rw [awake_eq (by omega), Option.bind_some, if_pos rfl, heavy_eq, Option.bind_some]
  have skip : supercargolaw02_DayWalks.j0 2000000 x n true l0 l1 = some true := by
    rw [show (2000000 : Nat) = 1999999 + 1 from rfl]
    simp only [supercargolaw02_DayWalks.j0, ↓reduceIte]
  cases hh : heavy l0 l1
  · obtain ⟨h0, h1⟩ := heavy_no hh
    rw [if_neg (by simp)]
    have main : (-300 ≤ n ∧ n ≤ 300 ∨ n < -1048576 ∨ 1048576 < n) → supercargolaw02_DayWalks.j0 2000000 x n false l0 l1 = some true := by
      intro hr
      rw [show (2000000 : Nat) = 1999999 + 1 from rfl]
      simp only [supercargolaw02_DayWalks.j0]
      rw [if_neg (by simp), Next_eq, Last_eq, refIs_eq]
      cases hx : isDay x
      · rw [along_eq (by omega) (by omega) x 1 1 (by omega), along_eq (by omega) (by omega) x 1 (-1) (by omega), show (1999999 : Nat) = 1999998 + 1 from rfl, along_out hx, along_out hx, Add_no (.inl hx)]
        simp only [Option.bind_some, ↓reduceIte, Bool.false_eq_true, supercargolaw02_DayWalks.j1, Bool.not_false]
      · obtain ⟨v1, g1⟩ := Walk_eq (l0 := l0) (l1 := l1) (by omega) (by omega) x 1 1 true hx (.inl rfl)
        obtain ⟨v2, g2⟩ := Walk_eq (l0 := l0) (l1 := l1) (by omega) (by omega) x 1 (-1) true hx (.inr rfl)
        have n1 := (g1 1999999 (by omega)).2 (by omega) (by omega)
        have n2 := (g2 1999999 (by omega)).2 (by omega) (by omega)
        rw [if_pos rfl] at n1 n2
        rw [n1, n2]
        -- behind the walks to the n-th day
        have tail : ∀ t : Int × Bool, ∀ u : Int × Bool, t = (if n < -1048576 ∨ 1048576 < n then (0, false) else u) → supercargolaw02_DayWalks.j4 1999996 n t.1 t.2 u.1 u.2 = some true := by
          intro t u e
          rw [show (1999996 : Nat) = 1999995 + 1 from rfl]
          simp only [supercargolaw02_DayWalks.j4]
          rw [show (1999995 : Nat) = 1999994 + 1 from rfl]
          by_cases c1 : n < -1048576
          · rw [if_pos c1]
            rw [if_pos (.inl c1)] at e
            subst e
            simp only [supercargolaw02_DayWalks.j5, ↓reduceIte]
            rw [show (1999994 : Nat) = 1999993 + 1 from rfl]
            simp only [supercargolaw02_DayWalks.j6, ↓reduceIte]
            rw [show (1999993 : Nat) = 1999992 + 1 from rfl]
            simp only [supercargolaw02_DayWalks.j7]
            rfl
          · rw [if_neg c1]
            by_cases c2 : n > 1048576
            · rw [decide_eq_true c2]
              rw [if_pos (.inr c2)] at e
              subst e
              simp only [supercargolaw02_DayWalks.j5, ↓reduceIte]
              rw [show (1999994 : Nat) = 1999993 + 1 from rfl]
              simp only [supercargolaw02_DayWalks.j6, ↓reduceIte]
              rw [show (1999993 : Nat) = 1999992 + 1 from rfl]
              simp only [supercargolaw02_DayWalks.j7]
              rfl
            · rw [decide_eq_false c2]
              rw [if_neg (by omega)] at e
              subst e
              simp only [supercargolaw02_DayWalks.j5, Bool.false_eq_true, ↓reduceIte]
              rw [show (1999994 : Nat) = 1999993 + 1 from rfl]
              simp only [supercargolaw02_DayWalks.j6, ↓reduceIte]
              rw [show (1999993 : Nat) = 1999992 + 1 from rfl]
              simp only [supercargolaw02_DayWalks.j7, beq_self_eq_true]
        have j2 : ∀ t : Int × Bool, day_Add.f 1999999 l0 l1 x n = some t → supercargolaw02_DayWalks.j2 1999999 x n t.1 t.2 v1.1 v1.2 false l0 l1 = some true := by
          intro t ht
          rw [show (1999999 : Nat) = 1999998 + 1 from rfl]
          simp only [supercargolaw02_DayWalks.j2]
          rw [if_neg (by simp)]
          by_cases c1 : n > 0
          · rw [if_pos c1]
            obtain ⟨v3, g3⟩ := Walk_eq (l0 := l0) (l1 := l1) (by omega) (by omega) x n 1 false hx (.inl rfl)
            rw [(g3 1999998 (by omega)).1, Option.bind_some, show (1999998 : Nat) = 1999997 + 1 from rfl]
            simp only [supercargolaw02_DayWalks.j3]
            rw [if_neg (by omega), show (1999997 : Nat) = 1999996 + 1 from rfl]
            have T : ∀ k : Nat, 1999996 ≤ k → supercargolaw02_DayWalks.j4 k n t.1 t.2 v3.1 v3.2 = some true := by
              intro k hk
              refine at_rounds (g := fun k => supercargolaw02_DayWalks.j4 k n t.1 t.2 v3.1 v3.2) (fun k => ?_) hk (tail t v3 ?_)
              · exact (supercargolaw02_DayWalks.mono_l k).2.2.2.1 _ _ _ _ _
              · by_cases c2 : n < -1048576 ∨ 1048576 < n
                · rw [if_pos c2]
                  rw [Add_no (k := 1999998) (.inr c2)] at ht
                  exact (Option.some.inj ht).symm
                · rw [if_neg c2]
                  rw [Add_eq (k := 1999998) hx (by omega) (by omega), if_neg (by omega), if_neg (by omega)] at ht
                  have := (g3 1999998 (by omega)).2 (by omega) (by omega)
                  rw [if_neg (by simp), ht] at this
                  exact Option.some.inj this
            exact T _ (by omega)
          · rw [if_neg c1, show (1999998 : Nat) = 1999997 + 1 from rfl]
            simp only [supercargolaw02_DayWalks.j3]
            by_cases c2 : n < 0
            · rw [if_pos c2]
              obtain ⟨v3, g3⟩ := Walk_eq (l0 := l0) (l1 := l1) (by omega) (by omega) x (wrap64 (-n)) (-1) false hx (.inr rfl)
              rw [(g3 1999997 (by omega)).1, Option.bind_some]
              have T : ∀ k : Nat, 1999996 ≤ k → supercargolaw02_DayWalks.j4 k n t.1 t.2 v3.1 v3.2 = some true := by
                intro k hk
                refine at_rounds (g := fun k => supercargolaw02_DayWalks.j4 k n t.1 t.2 v3.1 v3.2) (fun k => ?_) hk (tail t v3 ?_)
                · exact (supercargolaw02_DayWalks.mono_l k).2.2.2.1 _ _ _ _ _
                · by_cases c3 : n < -1048576 ∨ 1048576 < n
                  · rw [if_pos c3]
                    rw [Add_no (k := 1999998) (.inr c3)] at ht
                    exact (Option.some.inj ht).symm
                  · rw [if_neg c3]
                    rw [Add_eq (k := 1999998) hx (by omega) (by omega), if_neg (by omega), if_pos c2] at ht
                    have hw : wrap64 (-n) = -n := wrap_in (by omega) (by omega)
                    have := (g3 1999998 (by omega)).2 (by omega) (by omega)
                    rw [if_neg (by simp), ht] at this
                    exact Option.some.inj this
              exact T _ (by omega)
            · rw [if_neg c2]
              have T : ∀ k : Nat, 1999996 ≤ k → supercargolaw02_DayWalks.j4 k n t.1 t.2 v1.1 v1.2 = some true := by
                intro k hk
                refine at_rounds (g := fun k => supercargolaw02_DayWalks.j4 k n t.1 t.2 v1.1 v1.2) (fun k => ?_) hk (tail t v1 ?_)
                · exact (supercargolaw02_DayWalks.mono_l k).2.2.2.1 _ _ _ _ _
                · rw [if_neg (by omega)]
                  rw [Add_eq (k := 1999998) hx (by omega) (by omega), if_pos (by omega)] at ht
                  have := (g1 1999998 (by omega)).2 (by omega) (by omega)
                  rw [if_pos rfl, ht] at this
                  exact Option.some.inj this
              exact T _ (by omega)
        have hA : ∃ t, day_Add.f 1999999 l0 l1 x n = some t := by
          by_cases c3 : n < -1048576 ∨ 1048576 < n
          · exact ⟨_, Add_no (k := 1999998) (.inr c3)⟩
          · rw [Add_eq (k := 1999998) hx (by omega) (by omega)]
            by_cases c1 : n = 0
            · rw [if_pos c1]
              have := (g1 1999998 (by omega)).2 (by omega) (by omega)
              rw [if_pos rfl] at this
              exact ⟨_, this⟩
            · rw [if_neg c1]
              by_cases c2 : n < 0
              · rw [if_pos c2]
                obtain ⟨v3, g3⟩ := Walk_eq (l0 := l0) (l1 := l1) (by omega) (by omega) x (wrap64 (-n)) (-1) false hx (.inr rfl)
                have hw : wrap64 (-n) = -n := wrap_in (by omega) (by omega)
                have := (g3 1999998 (by omega)).2 (by omega) (by omega)
                rw [if_neg (by simp)] at this
                exact ⟨_, this⟩
              · rw [if_neg c2]
                obtain ⟨v3, g3⟩ := Walk_eq (l0 := l0) (l1 := l1) (by omega) (by omega) x n 1 false hx (.inl rfl)
                have := (g3 1999998 (by omega)).2 (by omega) (by omega)
                rw [if_neg (by simp)] at this
                exact ⟨_, this⟩
        obtain ⟨t, ht⟩ := hA
        rw [ht, (g1 1999999 (by omega)).1, (g2 1999999 (by omega)).1]
        simp only [Option.bind_some, ↓reduceIte, bne_self_eq_false, Bool.false_eq_true]
        exact j2 t ht
    by_cases c1 : n > 300
    · rw [if_pos c1]
      by_cases c2 : n ≤ 1048576
      · rw [if_pos c2, skip]
      · rw [if_neg c2, if_neg (by omega), main (by omega)]
    · rw [if_neg c1]
      by_cases c2 : n < -300
      · rw [if_pos c2]
        by_cases c3 : n ≥ -1048576
        · rw [decide_eq_true c3, skip]
        · rw [decide_eq_false c3, main (by omega)]
      · rw [if_neg c2, main (by omega)]
  · rw [if_pos rfl, skip]
end Go.Proofs.YtpmclpblnhjjeaaDoor.Pure
