-- Written by the session's own program xprint.py, which runs the kit's print over functions given by hand.
import Derived.Test.YtpmclpblnhjjeaaDoorPx0
import Derived.Test.YtpmclpblnhjjeaaDoorPx6
import Derived.Test.YtpmclpblnhjjeaaDoorPx8
import Derived.Test.YtpmclpblnhjjeaaDoorPx10
import Derived.Test.YtpmclpblnhjjeaaDoorPx11
namespace Go.Proofs.YtpmclpblnhjjeaaDoor.P
open Go.RowKit Go.Proofs.YtpmclpblnhjjeaaDoorW.PrintWords Go.Proofs.YtpmclpblnhjjeaaDoorW.PrintLast Go.Proofs.YtpmclpblnhjjeaaDoorW.PrintMore
attribute [local go_sem] max2_int min2_int max_two min_two max_three min_three max_four min_four   -- for this text's walks alone
set_option linter.unusedVariables false
set_option linter.unusedSimpArgs false

/-! ### supercargolaw02_DayWalks: function 4 -/
mutual
def supercargolaw02_DayWalks.j0 : Nat → Int → Int → Bool → List Int → List Int → Option (Bool)
  | 0, _, _, _, _, _ => none
  | k + 1, x1, x2, x38, x238000, x238001 => if x38 = true then (some true) else ((day_Next.f k x238000 x238001 x1).bind fun bt240 => ((day_Last.f k x238000 x238001 x1).bind fun bt242 => ((day_Add.f k x238000 x238001 x1 x2).bind fun bt244 => ((supercargoref02_Is.f x1).bind fun t246 => (if t246 = true then ((supercargoref02_Walk.f k x238000 x238001 x1 1 1 true).bind fun bt247 => ((supercargoref02_Walk.f k x238000 x238001 x1 (-1) 1 true).bind fun bt249 => (if bt240.1 = bt247.1 then (if (bt240.2 != bt247.2) = true then (supercargolaw02_DayWalks.j2 k x1 x2 bt244.1 bt244.2 bt247.1 bt247.2 true x238000 x238001) else (if bt242.1 = bt249.1 then (supercargolaw02_DayWalks.j2 k x1 x2 bt244.1 bt244.2 bt247.1 bt247.2 (bt242.2 != bt249.2) x238000 x238001) else (supercargolaw02_DayWalks.j2 k x1 x2 bt244.1 bt244.2 bt247.1 bt247.2 true x238000 x238001))) else (supercargolaw02_DayWalks.j2 k x1 x2 bt244.1 bt244.2 bt247.1 bt247.2 true x238000 x238001)))) else (if bt240.1 = 0 then (if bt240.2 = true then (supercargolaw02_DayWalks.j1 k false) else (if bt242.1 = 0 then (if bt242.2 = true then (supercargolaw02_DayWalks.j1 k false) else (if bt244.1 = 0 then (supercargolaw02_DayWalks.j1 k (!bt244.2)) else (supercargolaw02_DayWalks.j1 k false))) else (supercargolaw02_DayWalks.j1 k false))) else (supercargolaw02_DayWalks.j1 k false)))))))
def supercargolaw02_DayWalks.j2 : Nat → Int → Int → Int → Bool → Int → Bool → Bool → List Int → List Int → Option (Bool)
  | 0, _, _, _, _, _, _, _, _, _ => none
  | k + 1, x1, x2, x11, x12, x13, x14, x112, x238000, x238001 => if x112 = true then (some false) else (if x2 > 0 then ((supercargoref02_Walk.f k x238000 x238001 x1 1 x2 false).bind fun bt251 => (supercargolaw02_DayWalks.j3 k x1 x2 x11 x12 bt251.1 bt251.2 x238000 x238001)) else (supercargolaw02_DayWalks.j3 k x1 x2 x11 x12 x13 x14 x238000 x238001))
def supercargolaw02_DayWalks.j3 : Nat → Int → Int → Int → Bool → Int → Bool → List Int → List Int → Option (Bool)
  | 0, _, _, _, _, _, _, _, _ => none
  | k + 1, x1, x2, x11, x12, x17, x18, x238000, x238001 => if x2 < 0 then ((supercargoref02_Walk.f k x238000 x238001 x1 (-1) (wrap64 (-x2)) false).bind fun bt253 => (supercargolaw02_DayWalks.j4 k x2 x11 x12 bt253.1 bt253.2)) else (supercargolaw02_DayWalks.j4 k x2 x11 x12 x17 x18)
def supercargolaw02_DayWalks.j4 : Nat → Int → Int → Bool → Int → Bool → Option (Bool)
  | 0, _, _, _, _, _ => none
  | k + 1, x2, x11, x12, x17, x18 => if x2 < (-1048576) then (supercargolaw02_DayWalks.j5 k x11 x12 x17 x18 true) else (supercargolaw02_DayWalks.j5 k x11 x12 x17 x18 (decide (x2 > 1048576)))
def supercargolaw02_DayWalks.j5 : Nat → Int → Bool → Int → Bool → Bool → Option (Bool)
  | 0, _, _, _, _, _ => none
  | k + 1, x11, x12, x17, x18, x139 => if x139 = true then (supercargolaw02_DayWalks.j6 k x11 x12 0 false) else (supercargolaw02_DayWalks.j6 k x11 x12 x17 x18)
def supercargolaw02_DayWalks.j6 : Nat → Int → Bool → Int → Bool → Option (Bool)
  | 0, _, _, _, _ => none
  | k + 1, x11, x12, x17, x18 => if x11 = x17 then (supercargolaw02_DayWalks.j7 k (x12 == x18)) else (supercargolaw02_DayWalks.j7 k false)
def supercargolaw02_DayWalks.j7 : Nat → Bool → Option (Bool)
  | 0, _ => none
  | k + 1, x6 => some x6
def supercargolaw02_DayWalks.j1 : Nat → Bool → Option (Bool)
  | 0, _ => none
  | k + 1, x6 => some x6
end
def supercargolaw02_DayWalks.f (k : Nat) (l0_0 : List Int) (l0_1 : List Int) (a1 : Int) (a2 : Int) : Option (Bool) := (supercargolaw02_awake.f k).bind fun t238 => (if t238 = true then ((supercargolaw02_heavy.f l0_0 l0_1).bind fun t239 => (if t239 = true then (supercargolaw02_DayWalks.j0 k a1 a2 true l0_0 l0_1) else (if a2 > 300 then (if a2 ≤ 1048576 then (supercargolaw02_DayWalks.j0 k a1 a2 true l0_0 l0_1) else (if a2 < (-300) then (supercargolaw02_DayWalks.j0 k a1 a2 (decide (a2 ≥ (-1048576))) l0_0 l0_1) else (supercargolaw02_DayWalks.j0 k a1 a2 false l0_0 l0_1))) else (if a2 < (-300) then (supercargolaw02_DayWalks.j0 k a1 a2 (decide (a2 ≥ (-1048576))) l0_0 l0_1) else (supercargolaw02_DayWalks.j0 k a1 a2 false l0_0 l0_1))))) else (some false))
theorem supercargolaw02_DayWalks.mono_l : ∀ k, (∀ y0 y1 y2 y3 y4, LeO (supercargolaw02_DayWalks.j0 k y0 y1 y2 y3 y4) (supercargolaw02_DayWalks.j0 (k + 1) y0 y1 y2 y3 y4)) ∧ (∀ y0 y1 y2 y3 y4 y5 y6 y7 y8, LeO (supercargolaw02_DayWalks.j2 k y0 y1 y2 y3 y4 y5 y6 y7 y8) (supercargolaw02_DayWalks.j2 (k + 1) y0 y1 y2 y3 y4 y5 y6 y7 y8)) ∧ (∀ y0 y1 y2 y3 y4 y5 y6 y7, LeO (supercargolaw02_DayWalks.j3 k y0 y1 y2 y3 y4 y5 y6 y7) (supercargolaw02_DayWalks.j3 (k + 1) y0 y1 y2 y3 y4 y5 y6 y7)) ∧ (∀ y0 y1 y2 y3 y4, LeO (supercargolaw02_DayWalks.j4 k y0 y1 y2 y3 y4) (supercargolaw02_DayWalks.j4 (k + 1) y0 y1 y2 y3 y4)) ∧ (∀ y0 y1 y2 y3 y4, LeO (supercargolaw02_DayWalks.j5 k y0 y1 y2 y3 y4) (supercargolaw02_DayWalks.j5 (k + 1) y0 y1 y2 y3 y4)) ∧ (∀ y0 y1 y2 y3, LeO (supercargolaw02_DayWalks.j6 k y0 y1 y2 y3) (supercargolaw02_DayWalks.j6 (k + 1) y0 y1 y2 y3)) ∧ (∀ y0, LeO (supercargolaw02_DayWalks.j7 k y0) (supercargolaw02_DayWalks.j7 (k + 1) y0)) ∧ (∀ y0, LeO (supercargolaw02_DayWalks.j1 k y0) (supercargolaw02_DayWalks.j1 (k + 1) y0))
  | 0 => ⟨fun _ _ _ _ _ r h => by simp [supercargolaw02_DayWalks.j0] at h, fun _ _ _ _ _ _ _ _ _ r h => by simp [supercargolaw02_DayWalks.j2] at h, fun _ _ _ _ _ _ _ _ r h => by simp [supercargolaw02_DayWalks.j3] at h, fun _ _ _ _ _ r h => by simp [supercargolaw02_DayWalks.j4] at h, fun _ _ _ _ _ r h => by simp [supercargolaw02_DayWalks.j5] at h, fun _ _ _ _ r h => by simp [supercargolaw02_DayWalks.j6] at h, fun _ r h => by simp [supercargolaw02_DayWalks.j7] at h, fun _ r h => by simp [supercargolaw02_DayWalks.j1] at h⟩
  | k + 1 => by
    obtain ⟨ih0, ih1, ih2, ih3, ih4, ih5, ih6, ih7⟩ := supercargolaw02_DayWalks.mono_l k
    refine ⟨?_, ?_, ?_, ?_, ?_, ?_, ?_, ?_⟩
    · intro y0 y1 y2 y3 y4
      unfold supercargolaw02_DayWalks.j0
      repeat' first
      | (with_reducible exact ih0 _ _ _ _ _)
      | (with_reducible exact ih1 _ _ _ _ _ _ _ _ _)
      | (with_reducible exact ih2 _ _ _ _ _ _ _ _)
      | (with_reducible exact ih3 _ _ _ _ _)
      | (with_reducible exact ih4 _ _ _ _ _)
      | (with_reducible exact ih5 _ _ _ _)
      | (with_reducible exact ih6 _)
      | (with_reducible exact ih7 _)
      | (with_reducible exact day_Add.mono _ _ _ _ _)
      | (with_reducible exact day_Last.mono _ _ _ _)
      | (with_reducible exact day_Next.mono _ _ _ _)
      | (with_reducible exact supercargolaw02_awake.mono _)
      | (with_reducible exact supercargoref02_Walk.mono _ _ _ _ _ _ _)
      | (with_reducible exact LeO.refl _)
      | (with_reducible exact LeO.none _)
      | (with_reducible refine LeO.ite ?_ ?_)
      | (with_reducible refine LeO.bind ?_ (fun _ => ?_))
      | exact ih0 _ _ _ _ _
      | exact ih1 _ _ _ _ _ _ _ _ _
      | exact ih2 _ _ _ _ _ _ _ _
      | exact ih3 _ _ _ _ _
      | exact ih4 _ _ _ _ _
      | exact ih5 _ _ _ _
      | exact ih6 _
      | exact ih7 _
      | exact day_Add.mono _ _ _ _ _
      | exact day_Last.mono _ _ _ _
      | exact day_Next.mono _ _ _ _
      | exact supercargolaw02_awake.mono _
      | exact supercargoref02_Walk.mono _ _ _ _ _ _ _
      | exact LeO.none _
      | refine LeO.ite ?_ ?_
      | refine LeO.bind ?_ (fun _ => ?_)
    · intro y0 y1 y2 y3 y4 y5 y6 y7 y8
      unfold supercargolaw02_DayWalks.j2
      repeat' first
      | (with_reducible exact ih0 _ _ _ _ _)
      | (with_reducible exact ih1 _ _ _ _ _ _ _ _ _)
      | (with_reducible exact ih2 _ _ _ _ _ _ _ _)
      | (with_reducible exact ih3 _ _ _ _ _)
      | (with_reducible exact ih4 _ _ _ _ _)
      | (with_reducible exact ih5 _ _ _ _)
      | (with_reducible exact ih6 _)
      | (with_reducible exact ih7 _)
      | (with_reducible exact day_Add.mono _ _ _ _ _)
      | (with_reducible exact day_Last.mono _ _ _ _)
      | (with_reducible exact day_Next.mono _ _ _ _)
      | (with_reducible exact supercargolaw02_awake.mono _)
      | (with_reducible exact supercargoref02_Walk.mono _ _ _ _ _ _ _)
      | (with_reducible exact LeO.refl _)
      | (with_reducible exact LeO.none _)
      | (with_reducible refine LeO.ite ?_ ?_)
      | (with_reducible refine LeO.bind ?_ (fun _ => ?_))
      | exact ih0 _ _ _ _ _
      | exact ih1 _ _ _ _ _ _ _ _ _
      | exact ih2 _ _ _ _ _ _ _ _
      | exact ih3 _ _ _ _ _
      | exact ih4 _ _ _ _ _
      | exact ih5 _ _ _ _
      | exact ih6 _
      | exact ih7 _
      | exact day_Add.mono _ _ _ _ _
      | exact day_Last.mono _ _ _ _
      | exact day_Next.mono _ _ _ _
      | exact supercargolaw02_awake.mono _
      | exact supercargoref02_Walk.mono _ _ _ _ _ _ _
      | exact LeO.none _
      | refine LeO.ite ?_ ?_
      | refine LeO.bind ?_ (fun _ => ?_)
    · intro y0 y1 y2 y3 y4 y5 y6 y7
      unfold supercargolaw02_DayWalks.j3
      repeat' first
      | (with_reducible exact ih0 _ _ _ _ _)
      | (with_reducible exact ih1 _ _ _ _ _ _ _ _ _)
      | (with_reducible exact ih2 _ _ _ _ _ _ _ _)
      | (with_reducible exact ih3 _ _ _ _ _)
      | (with_reducible exact ih4 _ _ _ _ _)
      | (with_reducible exact ih5 _ _ _ _)
      | (with_reducible exact ih6 _)
      | (with_reducible exact ih7 _)
      | (with_reducible exact day_Add.mono _ _ _ _ _)
      | (with_reducible exact day_Last.mono _ _ _ _)
      | (with_reducible exact day_Next.mono _ _ _ _)
      | (with_reducible exact supercargolaw02_awake.mono _)
      | (with_reducible exact supercargoref02_Walk.mono _ _ _ _ _ _ _)
      | (with_reducible exact LeO.refl _)
      | (with_reducible exact LeO.none _)
      | (with_reducible refine LeO.ite ?_ ?_)
      | (with_reducible refine LeO.bind ?_ (fun _ => ?_))
      | exact ih0 _ _ _ _ _
      | exact ih1 _ _ _ _ _ _ _ _ _
      | exact ih2 _ _ _ _ _ _ _ _
      | exact ih3 _ _ _ _ _
      | exact ih4 _ _ _ _ _
      | exact ih5 _ _ _ _
      | exact ih6 _
      | exact ih7 _
      | exact day_Add.mono _ _ _ _ _
      | exact day_Last.mono _ _ _ _
      | exact day_Next.mono _ _ _ _
      | exact supercargolaw02_awake.mono _
      | exact supercargoref02_Walk.mono _ _ _ _ _ _ _
      | exact LeO.none _
      | refine LeO.ite ?_ ?_
      | refine LeO.bind ?_ (fun _ => ?_)
    · intro y0 y1 y2 y3 y4
      unfold supercargolaw02_DayWalks.j4
      repeat' first
      | (with_reducible exact ih0 _ _ _ _ _)
      | (with_reducible exact ih1 _ _ _ _ _ _ _ _ _)
      | (with_reducible exact ih2 _ _ _ _ _ _ _ _)
      | (with_reducible exact ih3 _ _ _ _ _)
      | (with_reducible exact ih4 _ _ _ _ _)
      | (with_reducible exact ih5 _ _ _ _)
      | (with_reducible exact ih6 _)
      | (with_reducible exact ih7 _)
      | (with_reducible exact day_Add.mono _ _ _ _ _)
      | (with_reducible exact day_Last.mono _ _ _ _)
      | (with_reducible exact day_Next.mono _ _ _ _)
      | (with_reducible exact supercargolaw02_awake.mono _)
      | (with_reducible exact supercargoref02_Walk.mono _ _ _ _ _ _ _)
      | (with_reducible exact LeO.refl _)
      | (with_reducible exact LeO.none _)
      | (with_reducible refine LeO.ite ?_ ?_)
      | (with_reducible refine LeO.bind ?_ (fun _ => ?_))
      | exact ih0 _ _ _ _ _
      | exact ih1 _ _ _ _ _ _ _ _ _
      | exact ih2 _ _ _ _ _ _ _ _
      | exact ih3 _ _ _ _ _
      | exact ih4 _ _ _ _ _
      | exact ih5 _ _ _ _
      | exact ih6 _
      | exact ih7 _
      | exact day_Add.mono _ _ _ _ _
      | exact day_Last.mono _ _ _ _
      | exact day_Next.mono _ _ _ _
      | exact supercargolaw02_awake.mono _
      | exact supercargoref02_Walk.mono _ _ _ _ _ _ _
      | exact LeO.none _
      | refine LeO.ite ?_ ?_
      | refine LeO.bind ?_ (fun _ => ?_)
    · intro y0 y1 y2 y3 y4
      unfold supercargolaw02_DayWalks.j5
      repeat' first
      | (with_reducible exact ih0 _ _ _ _ _)
      | (with_reducible exact ih1 _ _ _ _ _ _ _ _ _)
      | (with_reducible exact ih2 _ _ _ _ _ _ _ _)
      | (with_reducible exact ih3 _ _ _ _ _)
      | (with_reducible exact ih4 _ _ _ _ _)
      | (with_reducible exact ih5 _ _ _ _)
      | (with_reducible exact ih6 _)
      | (with_reducible exact ih7 _)
      | (with_reducible exact day_Add.mono _ _ _ _ _)
      | (with_reducible exact day_Last.mono _ _ _ _)
      | (with_reducible exact day_Next.mono _ _ _ _)
      | (with_reducible exact supercargolaw02_awake.mono _)
      | (with_reducible exact supercargoref02_Walk.mono _ _ _ _ _ _ _)
      | (with_reducible exact LeO.refl _)
      | (with_reducible exact LeO.none _)
      | (with_reducible refine LeO.ite ?_ ?_)
      | (with_reducible refine LeO.bind ?_ (fun _ => ?_))
      | exact ih0 _ _ _ _ _
      | exact ih1 _ _ _ _ _ _ _ _ _
      | exact ih2 _ _ _ _ _ _ _ _
      | exact ih3 _ _ _ _ _
      | exact ih4 _ _ _ _ _
      | exact ih5 _ _ _ _
      | exact ih6 _
      | exact ih7 _
      | exact day_Add.mono _ _ _ _ _
      | exact day_Last.mono _ _ _ _
      | exact day_Next.mono _ _ _ _
      | exact supercargolaw02_awake.mono _
      | exact supercargoref02_Walk.mono _ _ _ _ _ _ _
      | exact LeO.none _
      | refine LeO.ite ?_ ?_
      | refine LeO.bind ?_ (fun _ => ?_)
    · intro y0 y1 y2 y3
      unfold supercargolaw02_DayWalks.j6
      repeat' first
      | (with_reducible exact ih0 _ _ _ _ _)
      | (with_reducible exact ih1 _ _ _ _ _ _ _ _ _)
      | (with_reducible exact ih2 _ _ _ _ _ _ _ _)
      | (with_reducible exact ih3 _ _ _ _ _)
      | (with_reducible exact ih4 _ _ _ _ _)
      | (with_reducible exact ih5 _ _ _ _)
      | (with_reducible exact ih6 _)
      | (with_reducible exact ih7 _)
      | (with_reducible exact day_Add.mono _ _ _ _ _)
      | (with_reducible exact day_Last.mono _ _ _ _)
      | (with_reducible exact day_Next.mono _ _ _ _)
      | (with_reducible exact supercargolaw02_awake.mono _)
      | (with_reducible exact supercargoref02_Walk.mono _ _ _ _ _ _ _)
      | (with_reducible exact LeO.refl _)
      | (with_reducible exact LeO.none _)
      | (with_reducible refine LeO.ite ?_ ?_)
      | (with_reducible refine LeO.bind ?_ (fun _ => ?_))
      | exact ih0 _ _ _ _ _
      | exact ih1 _ _ _ _ _ _ _ _ _
      | exact ih2 _ _ _ _ _ _ _ _
      | exact ih3 _ _ _ _ _
      | exact ih4 _ _ _ _ _
      | exact ih5 _ _ _ _
      | exact ih6 _
      | exact ih7 _
      | exact day_Add.mono _ _ _ _ _
      | exact day_Last.mono _ _ _ _
      | exact day_Next.mono _ _ _ _
      | exact supercargolaw02_awake.mono _
      | exact supercargoref02_Walk.mono _ _ _ _ _ _ _
      | exact LeO.none _
      | refine LeO.ite ?_ ?_
      | refine LeO.bind ?_ (fun _ => ?_)
    · intro y0
      unfold supercargolaw02_DayWalks.j7
      repeat' first
      | (with_reducible exact ih0 _ _ _ _ _)
      | (with_reducible exact ih1 _ _ _ _ _ _ _ _ _)
      | (with_reducible exact ih2 _ _ _ _ _ _ _ _)
      | (with_reducible exact ih3 _ _ _ _ _)
      | (with_reducible exact ih4 _ _ _ _ _)
      | (with_reducible exact ih5 _ _ _ _)
      | (with_reducible exact ih6 _)
      | (with_reducible exact ih7 _)
      | (with_reducible exact day_Add.mono _ _ _ _ _)
      | (with_reducible exact day_Last.mono _ _ _ _)
      | (with_reducible exact day_Next.mono _ _ _ _)
      | (with_reducible exact supercargolaw02_awake.mono _)
      | (with_reducible exact supercargoref02_Walk.mono _ _ _ _ _ _ _)
      | (with_reducible exact LeO.refl _)
      | (with_reducible exact LeO.none _)
      | (with_reducible refine LeO.ite ?_ ?_)
      | (with_reducible refine LeO.bind ?_ (fun _ => ?_))
      | exact ih0 _ _ _ _ _
      | exact ih1 _ _ _ _ _ _ _ _ _
      | exact ih2 _ _ _ _ _ _ _ _
      | exact ih3 _ _ _ _ _
      | exact ih4 _ _ _ _ _
      | exact ih5 _ _ _ _
      | exact ih6 _
      | exact ih7 _
      | exact day_Add.mono _ _ _ _ _
      | exact day_Last.mono _ _ _ _
      | exact day_Next.mono _ _ _ _
      | exact supercargolaw02_awake.mono _
      | exact supercargoref02_Walk.mono _ _ _ _ _ _ _
      | exact LeO.none _
      | refine LeO.ite ?_ ?_
      | refine LeO.bind ?_ (fun _ => ?_)
    · intro y0
      unfold supercargolaw02_DayWalks.j1
      repeat' first
      | (with_reducible exact ih0 _ _ _ _ _)
      | (with_reducible exact ih1 _ _ _ _ _ _ _ _ _)
      | (with_reducible exact ih2 _ _ _ _ _ _ _ _)
      | (with_reducible exact ih3 _ _ _ _ _)
      | (with_reducible exact ih4 _ _ _ _ _)
      | (with_reducible exact ih5 _ _ _ _)
      | (with_reducible exact ih6 _)
      | (with_reducible exact ih7 _)
      | (with_reducible exact day_Add.mono _ _ _ _ _)
      | (with_reducible exact day_Last.mono _ _ _ _)
      | (with_reducible exact day_Next.mono _ _ _ _)
      | (with_reducible exact supercargolaw02_awake.mono _)
      | (with_reducible exact supercargoref02_Walk.mono _ _ _ _ _ _ _)
      | (with_reducible exact LeO.refl _)
      | (with_reducible exact LeO.none _)
      | (with_reducible refine LeO.ite ?_ ?_)
      | (with_reducible refine LeO.bind ?_ (fun _ => ?_))
      | exact ih0 _ _ _ _ _
      | exact ih1 _ _ _ _ _ _ _ _ _
      | exact ih2 _ _ _ _ _ _ _ _
      | exact ih3 _ _ _ _ _
      | exact ih4 _ _ _ _ _
      | exact ih5 _ _ _ _
      | exact ih6 _
      | exact ih7 _
      | exact day_Add.mono _ _ _ _ _
      | exact day_Last.mono _ _ _ _
      | exact day_Next.mono _ _ _ _
      | exact supercargolaw02_awake.mono _
      | exact supercargoref02_Walk.mono _ _ _ _ _ _ _
      | exact LeO.none _
      | refine LeO.ite ?_ ?_
      | refine LeO.bind ?_ (fun _ => ?_)
theorem supercargolaw02_DayWalks.mono : ∀ a0 a1 a2 a3 k, LeO (supercargolaw02_DayWalks.f k a0 a1 a2 a3) (supercargolaw02_DayWalks.f (k + 1) a0 a1 a2 a3) := by
  intro a0 a1 a2 a3 k
  obtain ⟨ih0, ih1, ih2, ih3, ih4, ih5, ih6, ih7⟩ := supercargolaw02_DayWalks.mono_l k
  unfold supercargolaw02_DayWalks.f
  repeat' first
      | (with_reducible exact ih0 _ _ _ _ _)
      | (with_reducible exact ih1 _ _ _ _ _ _ _ _ _)
      | (with_reducible exact ih2 _ _ _ _ _ _ _ _)
      | (with_reducible exact ih3 _ _ _ _ _)
      | (with_reducible exact ih4 _ _ _ _ _)
      | (with_reducible exact ih5 _ _ _ _)
      | (with_reducible exact ih6 _)
      | (with_reducible exact ih7 _)
      | (with_reducible exact day_Add.mono _ _ _ _ _)
      | (with_reducible exact day_Last.mono _ _ _ _)
      | (with_reducible exact day_Next.mono _ _ _ _)
      | (with_reducible exact supercargolaw02_awake.mono _)
      | (with_reducible exact supercargoref02_Walk.mono _ _ _ _ _ _ _)
      | (with_reducible exact LeO.refl _)
      | (with_reducible exact LeO.none _)
      | (with_reducible refine LeO.ite ?_ ?_)
      | (with_reducible refine LeO.bind ?_ (fun _ => ?_))
      | exact ih0 _ _ _ _ _
      | exact ih1 _ _ _ _ _ _ _ _ _
      | exact ih2 _ _ _ _ _ _ _ _
      | exact ih3 _ _ _ _ _
      | exact ih4 _ _ _ _ _
      | exact ih5 _ _ _ _
      | exact ih6 _
      | exact ih7 _
      | exact day_Add.mono _ _ _ _ _
      | exact day_Last.mono _ _ _ _
      | exact day_Next.mono _ _ _ _
      | exact supercargolaw02_awake.mono _
      | exact supercargoref02_Walk.mono _ _ _ _ _ _ _
      | exact LeO.none _
      | refine LeO.ite ?_ ?_
      | refine LeO.bind ?_ (fun _ => ?_)
set_option maxHeartbeats 8000000 in
set_option maxRecDepth 100000 in
theorem supercargolaw02_DayWalks.calls (k : Nat) (A0_0 : Option Addr) (c0_0 : Nat) (l0_0 : List Int) (A0_1 : Option Addr) (c0_1 : Nat) (l0_1 : List Int) (a1 : Int) (a2 : Int) (r : Bool) (w : World) (hT : Tabs w) (hr0_0 : Kd.C (Kd.int .i64) w A0_0 l0_0.length l0_0) (hc0_0 : l0_0.length ≤ c0_0) (hr0_1 : Kd.C (Kd.int .i64) w A0_1 l0_1.length l0_1) (hc0_1 : l0_1.length ≤ c0_1) (h : supercargolaw02_DayWalks.f k l0_0 l0_1 a1 a2 = some r) :
    Calls Tryd.prog 4 #[.agg #[.slice A0_0 l0_0.length c0_0, .slice A0_1 l0_1.length c0_1], .int .i64 a1, .int .i64 a2] w fun e w' => e = .returned (.bool r) ∧ Below w.heap.size w w' := by
  have hu31 := Tryd.underlying31
  have HT := Aside0.mk hT
  clear hT
  have HR0_0 := Aside0.mk hr0_0
  have HC0_0 := Aside0.mk hc0_0
  clear hr0_0 hc0_0
  have HR0_1 := Aside0.mk hr0_1
  have HC0_1 := Aside0.mk hc0_1
  clear hr0_1 hc0_1
  have HB := Aside0.mk (Below.refl w.heap.size w)
  have H : ((supercargolaw02_awake.f k).bind fun t238 => (if t238 = true then ((supercargolaw02_heavy.f l0_0 l0_1).bind fun t239 => (if t239 = true then (supercargolaw02_DayWalks.j0 k a1 a2 true l0_0 l0_1) else (if a2 > 300 then (if a2 ≤ 1048576 then (supercargolaw02_DayWalks.j0 k a1 a2 true l0_0 l0_1) else (if a2 < (-300) then (supercargolaw02_DayWalks.j0 k a1 a2 (decide (a2 ≥ (-1048576))) l0_0 l0_1) else (supercargolaw02_DayWalks.j0 k a1 a2 false l0_0 l0_1))) else (if a2 < (-300) then (supercargolaw02_DayWalks.j0 k a1 a2 (decide (a2 ≥ (-1048576))) l0_0 l0_1) else (supercargolaw02_DayWalks.j0 k a1 a2 false l0_0 l0_1))))) else (some false))) = some r := h
  clear h
  replace H := Option.bind_eq_some_iff.mp H
  obtain ⟨t238, A40, H⟩ := H
  replace H : (if t238 = true then ((supercargolaw02_heavy.f l0_0 l0_1).bind fun t239 => (if t239 = true then (supercargolaw02_DayWalks.j0 k a1 a2 true l0_0 l0_1) else (if a2 > 300 then (if a2 ≤ 1048576 then (supercargolaw02_DayWalks.j0 k a1 a2 true l0_0 l0_1) else (if a2 < (-300) then (supercargolaw02_DayWalks.j0 k a1 a2 (decide (a2 ≥ (-1048576))) l0_0 l0_1) else (supercargolaw02_DayWalks.j0 k a1 a2 false l0_0 l0_1))) else (if a2 < (-300) then (supercargolaw02_DayWalks.j0 k a1 a2 (decide (a2 ≥ (-1048576))) l0_0 l0_1) else (supercargolaw02_DayWalks.j0 k a1 a2 false l0_0 l0_1))))) else (some false)) = some r := H
  have A4 := Aside0.mk A40
  clear A40
  by_cases c5 : t238 = true
  · subst c5
    have H1 : ((supercargolaw02_heavy.f l0_0 l0_1).bind fun t239 => (if t239 = true then (supercargolaw02_DayWalks.j0 k a1 a2 true l0_0 l0_1) else (if a2 > 300 then (if a2 ≤ 1048576 then (supercargolaw02_DayWalks.j0 k a1 a2 true l0_0 l0_1) else (if a2 < (-300) then (supercargolaw02_DayWalks.j0 k a1 a2 (decide (a2 ≥ (-1048576))) l0_0 l0_1) else (supercargolaw02_DayWalks.j0 k a1 a2 false l0_0 l0_1))) else (if a2 < (-300) then (supercargolaw02_DayWalks.j0 k a1 a2 (decide (a2 ≥ (-1048576))) l0_0 l0_1) else (supercargolaw02_DayWalks.j0 k a1 a2 false l0_0 l0_1))))) = some r := by rw [if_pos rfl] at H; exact H
    clear H
    have H := H1
    clear H1
    have HC6 := Aside0.mk H
    clear H
    go_enter Tryd.func4, Tryd.ntmps4
    go_upto_region 3 with (first | ((with_reducible refine gate_dst (N := 3) rfl ?_); refine box_event ?hg (N := 3) ?hd (cs := #[.slice A0_0 l0_0.length c0_0, .slice A0_1 l0_1.length c0_1]) (t := 31) ?hr ?_; (case hd => rfl); (case hg => rfl); (case hr => first | (go_simp; done) | (go_simp; rfl)); intro gb237 hg w7 hbox hb; have n0_ := Aside0.mk (below_step (by repeat (first | (with_reducible first | exact HB.out | apply below_alloc | apply pw_below_drewN | apply below_drew1) | exact HB.out)) hb); have n1_ := Aside0.mk (hbox); have n2_ := Aside0.mk ((by rw [hg]; exact (below_size (by repeat (first | (with_reducible first | exact HB.out | apply below_alloc | apply pw_below_drewN | apply below_drew1) | exact HB.out))) : w.heap.size ≤ gb237)); have n3_ := Aside0.mk ((by rw [hg]; exact (below_size (by repeat (first | (with_reducible first | exact HB.out | apply below_alloc | apply pw_below_drewN | apply below_drew1) | exact HB.out))) : w.heap.size ≤ gb237)); clear HB; have HB := n0_; have BK237 := n1_; have GW237 := n2_; have GE237 := n3_; clear n0_ n1_ n2_ n3_; clear hb hbox hg) | ((with_reducible refine gate_callee (f := 10) rfl ?_); refine goesL_ (some 19) rfl rfl Tryd.func10 (by kernel_rfl) rfl #[] rfl (by (try simp only [List.map_toArray, List.map_cons, List.map_nil]); first | done | rfl | (simp only [List.length_drop, List.length_take]; rfl)) ?_; (with_reducible refine (supercargolaw02_awake.calls k  true _ ?side1 A4.out).mono ?_); (case side1 => repeat (first | exact HT.out | exact Tabs_below HT.out (by repeat (first | (with_reducible first | exact HB.out | apply below_alloc | apply pw_below_drewN | apply below_drew1 | refine below_set ?_ GE237.out) | exact HB.out)) | (with_reducible refine Tabs_drewN ?_ _) | (with_reducible refine Tabs_drew ?_))); rintro e w8 ⟨rfl, hb⟩; refine ⟨_, rfl, ?_⟩; have n0_ := Aside0.mk (blk_below (g := gb237) (o := .cells #[.slice A0_0 l0_0.length c0_0, .slice A0_1 l0_1.length c0_1] 31 (0, 0)) (by (with_reducible repeat (first | refine blk_drewN ?_ _ | refine blk_drew ?_ | refine blk_alloc ?_ _)); exact BK237.out) hb); have n1_ := Aside0.mk (below_step (by repeat (first | (with_reducible first | exact HB.out | apply below_alloc | apply pw_below_drewN | apply below_drew1 | refine below_set ?_ GE237.out) | exact HB.out)) hb); clear BK237; clear HB; have BK237 := n0_; have HB := n1_; clear n0_ n1_; (try clear hb); (try clear hb2); (try clear hk); (try clear hi)))
    (try simp only [Act.put, List.setIfInBounds_toArray, List.set_cons_zero, List.set_cons_succ])
    go_cut [38] (fun v38 wc => ∃ (kq : Nat) (x38_5 : Bool), v38 = .bool x38_5 ∧ Aside0 (supercargolaw02_DayWalks.j0 kq a1 a2 x38_5 l0_0 l0_1 = some r) ∧ Aside0 (kq ≤ k) ∧ Aside0 (wc.heap[gb237]? = some (.cells #[(.slice A0_0 l0_0.length c0_0), (.slice A0_1 l0_1.length c0_1)] 31 (0, 0))) ∧ Aside0 (Below w.heap.size w wc))
    case first =>
      have H := HC6.out
      clear HC6
      replace H := Option.bind_eq_some_iff.mp H
      obtain ⟨t239, A90, H⟩ := H
      replace H : (if t239 = true then (supercargolaw02_DayWalks.j0 k a1 a2 true l0_0 l0_1) else (if a2 > 300 then (if a2 ≤ 1048576 then (supercargolaw02_DayWalks.j0 k a1 a2 true l0_0 l0_1) else (if a2 < (-300) then (supercargolaw02_DayWalks.j0 k a1 a2 (decide (a2 ≥ (-1048576))) l0_0 l0_1) else (supercargolaw02_DayWalks.j0 k a1 a2 false l0_0 l0_1))) else (if a2 < (-300) then (supercargolaw02_DayWalks.j0 k a1 a2 (decide (a2 ≥ (-1048576))) l0_0 l0_1) else (supercargolaw02_DayWalks.j0 k a1 a2 false l0_0 l0_1)))) = some r := H
      have A9 := Aside0.mk A90
      clear A90
      by_cases c10 : t239 = true
      · subst c10
        have H1 : (supercargolaw02_DayWalks.j0 k a1 a2 true l0_0 l0_1) = some r := by rw [if_pos rfl] at H; exact H
        clear H
        have H := H1
        clear H1
        have H' := Aside0.mk H
        clear H
        have hcz11_0 : w8.cell? ⟨gb237, 0, none⟩ = some (.slice A0_0 l0_0.length c0_0) := (blk_cell BK237.out 0).trans rfl
        have hcz11_1 : w8.cell? ⟨gb237, 1, none⟩ = some (.slice A0_1 l0_1.length c0_1) := (blk_cell BK237.out 1).trans rfl
        have hfz11_0 := blk_frozen BK237.out 0
        have hfz11_1 := blk_frozen BK237.out 1
        go_wp2_with (first | ((with_reducible refine gate_callee (f := 16) rfl ?_); refine goesL_ (some 22) rfl rfl Tryd.func16 (by kernel_rfl) rfl #[.agg #[.slice A0_0 l0_0.length c0_0, .slice A0_1 l0_1.length c0_1]] rfl (by (try simp only [List.map_toArray, List.map_cons, List.map_nil]); first | done | rfl | (simp only [List.length_drop, List.length_take]; rfl)) ?_; (with_reducible refine (supercargolaw02_heavy.calls _ _ l0_0 _ _ l0_1 true _ ?side1 ?side2 ?side3 ?side4 A9.out).mono ?_); (case side1 => repeat (first | exact (Kd.C_below HR0_0.out HB.out) | (with_reducible refine Kd.C_alloc ?_ _) | (with_reducible refine Kd.C_drewN ?_ _) | (with_reducible refine Kd.C_drew ?_))); (case side2 => exact HC0_0.out); (case side3 => repeat (first | exact (Kd.C_below HR0_1.out HB.out) | (with_reducible refine Kd.C_alloc ?_ _) | (with_reducible refine Kd.C_drewN ?_ _) | (with_reducible refine Kd.C_drew ?_))); (case side4 => exact HC0_1.out); rintro e w12 ⟨rfl, hb⟩; refine ⟨_, rfl, ?_⟩; have n0_ := Aside0.mk (blk_below (g := gb237) (o := .cells #[.slice A0_0 l0_0.length c0_0, .slice A0_1 l0_1.length c0_1] 31 (0, 0)) (by (with_reducible repeat (first | refine blk_drewN ?_ _ | refine blk_drew ?_ | refine blk_alloc ?_ _)); exact BK237.out) hb); have n1_ := Aside0.mk (below_step (by repeat (first | (with_reducible first | exact HB.out | apply below_alloc | apply pw_below_drewN | apply below_drew1 | refine below_set ?_ GE237.out) | exact HB.out)) hb); clear BK237; clear HB; have BK237 := n0_; have HB := n1_; clear n0_ n1_; (try clear hb); (try clear hb2); (try clear hk); (try clear hi)))
        go_meet
        case rel => exact ⟨_, (true), (by first | rfl | (simp; done) | (simp [*]; done)), H', ⟨by first | omega | exact Nat.le_refl _⟩, ⟨by (with_reducible repeat (first | refine blk_drewN ?_ _ | refine blk_drew ?_ | refine blk_alloc ?_ _)); exact BK237.out⟩, ⟨by repeat (first | (with_reducible first | exact HB.out | apply below_alloc | apply pw_below_drewN | apply below_drew1 | refine below_set ?_ GE237.out) | exact HB.out)⟩⟩
      · replace c10 := Bool.eq_false_iff.mpr c10
        subst c10
        have H1 : (if a2 > 300 then (if a2 ≤ 1048576 then (supercargolaw02_DayWalks.j0 k a1 a2 true l0_0 l0_1) else (if a2 < (-300) then (supercargolaw02_DayWalks.j0 k a1 a2 (decide (a2 ≥ (-1048576))) l0_0 l0_1) else (supercargolaw02_DayWalks.j0 k a1 a2 false l0_0 l0_1))) else (if a2 < (-300) then (supercargolaw02_DayWalks.j0 k a1 a2 (decide (a2 ≥ (-1048576))) l0_0 l0_1) else (supercargolaw02_DayWalks.j0 k a1 a2 false l0_0 l0_1))) = some r := by rw [if_neg (show ¬ (false = true) by decide)] at H; exact H
        clear H
        have H := H1
        clear H1
        by_cases c13 : a2 > 300
        · rw [if_pos c13] at H
          have c13b0 : decide (300 < a2) = true := decide_eq_true c13
          clear c13
          (first | rw [c13b0] | (simp only [i64_w, i32_w]; rw [c13b0]) | skip)
          by_cases c14 : a2 ≤ 1048576
          · rw [if_pos c14] at H
            have c14b0 : decide (a2 ≤ 1048576) = true := decide_eq_true c14
            clear c14
            have H' := Aside0.mk H
            clear H
            have hcz15_0 : w8.cell? ⟨gb237, 0, none⟩ = some (.slice A0_0 l0_0.length c0_0) := (blk_cell BK237.out 0).trans rfl
            have hcz15_1 : w8.cell? ⟨gb237, 1, none⟩ = some (.slice A0_1 l0_1.length c0_1) := (blk_cell BK237.out 1).trans rfl
            have hfz15_0 := blk_frozen BK237.out 0
            have hfz15_1 := blk_frozen BK237.out 1
            go_wp2_with (first | ((with_reducible refine gate_callee (f := 16) rfl ?_); refine goesL_ (some 22) rfl rfl Tryd.func16 (by kernel_rfl) rfl #[.agg #[.slice A0_0 l0_0.length c0_0, .slice A0_1 l0_1.length c0_1]] rfl (by (try simp only [List.map_toArray, List.map_cons, List.map_nil]); first | done | rfl | (simp only [List.length_drop, List.length_take]; rfl)) ?_; (with_reducible refine (supercargolaw02_heavy.calls _ _ l0_0 _ _ l0_1 false _ ?side1 ?side2 ?side3 ?side4 A9.out).mono ?_); (case side1 => repeat (first | exact (Kd.C_below HR0_0.out HB.out) | (with_reducible refine Kd.C_alloc ?_ _) | (with_reducible refine Kd.C_drewN ?_ _) | (with_reducible refine Kd.C_drew ?_))); (case side2 => exact HC0_0.out); (case side3 => repeat (first | exact (Kd.C_below HR0_1.out HB.out) | (with_reducible refine Kd.C_alloc ?_ _) | (with_reducible refine Kd.C_drewN ?_ _) | (with_reducible refine Kd.C_drew ?_))); (case side4 => exact HC0_1.out); rintro e w16 ⟨rfl, hb⟩; refine ⟨_, rfl, ?_⟩; have n0_ := Aside0.mk (blk_below (g := gb237) (o := .cells #[.slice A0_0 l0_0.length c0_0, .slice A0_1 l0_1.length c0_1] 31 (0, 0)) (by (with_reducible repeat (first | refine blk_drewN ?_ _ | refine blk_drew ?_ | refine blk_alloc ?_ _)); exact BK237.out) hb); have n1_ := Aside0.mk (below_step (by repeat (first | (with_reducible first | exact HB.out | apply below_alloc | apply pw_below_drewN | apply below_drew1 | refine below_set ?_ GE237.out) | exact HB.out)) hb); clear BK237; clear HB; have BK237 := n0_; have HB := n1_; clear n0_ n1_; (try clear hb); (try clear hb2); (try clear hk); (try clear hi)))
            go_meet
            case rel => exact ⟨_, (true), (by first | rfl | (simp; done) | (simp [*]; done)), H', ⟨by first | omega | exact Nat.le_refl _⟩, ⟨by (with_reducible repeat (first | refine blk_drewN ?_ _ | refine blk_drew ?_ | refine blk_alloc ?_ _)); exact BK237.out⟩, ⟨by repeat (first | (with_reducible first | exact HB.out | apply below_alloc | apply pw_below_drewN | apply below_drew1 | refine below_set ?_ GE237.out) | exact HB.out)⟩⟩
          · rw [if_neg c14] at H
            have c14b0 : decide (a2 ≤ 1048576) = false := decide_eq_false c14
            clear c14
            by_cases c17 : a2 < (-300)
            · rw [if_pos c17] at H
              have c17b0 : decide (a2 < (-300)) = true := decide_eq_true c17
              clear c17
              have H' := Aside0.mk H
              clear H
              have hcz18_0 : w8.cell? ⟨gb237, 0, none⟩ = some (.slice A0_0 l0_0.length c0_0) := (blk_cell BK237.out 0).trans rfl
              have hcz18_1 : w8.cell? ⟨gb237, 1, none⟩ = some (.slice A0_1 l0_1.length c0_1) := (blk_cell BK237.out 1).trans rfl
              have hfz18_0 := blk_frozen BK237.out 0
              have hfz18_1 := blk_frozen BK237.out 1
              go_wp2_with (first | ((with_reducible refine gate_callee (f := 16) rfl ?_); refine goesL_ (some 22) rfl rfl Tryd.func16 (by kernel_rfl) rfl #[.agg #[.slice A0_0 l0_0.length c0_0, .slice A0_1 l0_1.length c0_1]] rfl (by (try simp only [List.map_toArray, List.map_cons, List.map_nil]); first | done | rfl | (simp only [List.length_drop, List.length_take]; rfl)) ?_; (with_reducible refine (supercargolaw02_heavy.calls _ _ l0_0 _ _ l0_1 false _ ?side1 ?side2 ?side3 ?side4 A9.out).mono ?_); (case side1 => repeat (first | exact (Kd.C_below HR0_0.out HB.out) | (with_reducible refine Kd.C_alloc ?_ _) | (with_reducible refine Kd.C_drewN ?_ _) | (with_reducible refine Kd.C_drew ?_))); (case side2 => exact HC0_0.out); (case side3 => repeat (first | exact (Kd.C_below HR0_1.out HB.out) | (with_reducible refine Kd.C_alloc ?_ _) | (with_reducible refine Kd.C_drewN ?_ _) | (with_reducible refine Kd.C_drew ?_))); (case side4 => exact HC0_1.out); rintro e w19 ⟨rfl, hb⟩; refine ⟨_, rfl, ?_⟩; have n0_ := Aside0.mk (blk_below (g := gb237) (o := .cells #[.slice A0_0 l0_0.length c0_0, .slice A0_1 l0_1.length c0_1] 31 (0, 0)) (by (with_reducible repeat (first | refine blk_drewN ?_ _ | refine blk_drew ?_ | refine blk_alloc ?_ _)); exact BK237.out) hb); have n1_ := Aside0.mk (below_step (by repeat (first | (with_reducible first | exact HB.out | apply below_alloc | apply pw_below_drewN | apply below_drew1 | refine below_set ?_ GE237.out) | exact HB.out)) hb); clear BK237; clear HB; have BK237 := n0_; have HB := n1_; clear n0_ n1_; (try clear hb); (try clear hb2); (try clear hk); (try clear hi)))
              go_meet
              case rel => exact ⟨_, (decide (a2 ≥ (-1048576))), (by first | rfl | (simp; done) | (simp [*]; done)), H', ⟨by first | omega | exact Nat.le_refl _⟩, ⟨by (with_reducible repeat (first | refine blk_drewN ?_ _ | refine blk_drew ?_ | refine blk_alloc ?_ _)); exact BK237.out⟩, ⟨by repeat (first | (with_reducible first | exact HB.out | apply below_alloc | apply pw_below_drewN | apply below_drew1 | refine below_set ?_ GE237.out) | exact HB.out)⟩⟩
            · rw [if_neg c17] at H
              have c17b0 : decide (a2 < (-300)) = false := decide_eq_false c17
              clear c17
              have H' := Aside0.mk H
              clear H
              have hcz20_0 : w8.cell? ⟨gb237, 0, none⟩ = some (.slice A0_0 l0_0.length c0_0) := (blk_cell BK237.out 0).trans rfl
              have hcz20_1 : w8.cell? ⟨gb237, 1, none⟩ = some (.slice A0_1 l0_1.length c0_1) := (blk_cell BK237.out 1).trans rfl
              have hfz20_0 := blk_frozen BK237.out 0
              have hfz20_1 := blk_frozen BK237.out 1
              go_wp2_with (first | ((with_reducible refine gate_callee (f := 16) rfl ?_); refine goesL_ (some 22) rfl rfl Tryd.func16 (by kernel_rfl) rfl #[.agg #[.slice A0_0 l0_0.length c0_0, .slice A0_1 l0_1.length c0_1]] rfl (by (try simp only [List.map_toArray, List.map_cons, List.map_nil]); first | done | rfl | (simp only [List.length_drop, List.length_take]; rfl)) ?_; (with_reducible refine (supercargolaw02_heavy.calls _ _ l0_0 _ _ l0_1 false _ ?side1 ?side2 ?side3 ?side4 A9.out).mono ?_); (case side1 => repeat (first | exact (Kd.C_below HR0_0.out HB.out) | (with_reducible refine Kd.C_alloc ?_ _) | (with_reducible refine Kd.C_drewN ?_ _) | (with_reducible refine Kd.C_drew ?_))); (case side2 => exact HC0_0.out); (case side3 => repeat (first | exact (Kd.C_below HR0_1.out HB.out) | (with_reducible refine Kd.C_alloc ?_ _) | (with_reducible refine Kd.C_drewN ?_ _) | (with_reducible refine Kd.C_drew ?_))); (case side4 => exact HC0_1.out); rintro e w21 ⟨rfl, hb⟩; refine ⟨_, rfl, ?_⟩; have n0_ := Aside0.mk (blk_below (g := gb237) (o := .cells #[.slice A0_0 l0_0.length c0_0, .slice A0_1 l0_1.length c0_1] 31 (0, 0)) (by (with_reducible repeat (first | refine blk_drewN ?_ _ | refine blk_drew ?_ | refine blk_alloc ?_ _)); exact BK237.out) hb); have n1_ := Aside0.mk (below_step (by repeat (first | (with_reducible first | exact HB.out | apply below_alloc | apply pw_below_drewN | apply below_drew1 | refine below_set ?_ GE237.out) | exact HB.out)) hb); clear BK237; clear HB; have BK237 := n0_; have HB := n1_; clear n0_ n1_; (try clear hb); (try clear hb2); (try clear hk); (try clear hi)))
              go_meet
              case rel => exact ⟨_, (false), (by first | rfl | (simp; done) | (simp [*]; done)), H', ⟨by first | omega | exact Nat.le_refl _⟩, ⟨by (with_reducible repeat (first | refine blk_drewN ?_ _ | refine blk_drew ?_ | refine blk_alloc ?_ _)); exact BK237.out⟩, ⟨by repeat (first | (with_reducible first | exact HB.out | apply below_alloc | apply pw_below_drewN | apply below_drew1 | refine below_set ?_ GE237.out) | exact HB.out)⟩⟩
        · rw [if_neg c13] at H
          have c13b0 : decide (300 < a2) = false := decide_eq_false c13
          clear c13
          (first | rw [c13b0] | (simp only [i64_w, i32_w]; rw [c13b0]) | skip)
          by_cases c22 : a2 < (-300)
          · rw [if_pos c22] at H
            have c22b0 : decide (a2 < (-300)) = true := decide_eq_true c22
            clear c22
            have H' := Aside0.mk H
            clear H
            have hcz23_0 : w8.cell? ⟨gb237, 0, none⟩ = some (.slice A0_0 l0_0.length c0_0) := (blk_cell BK237.out 0).trans rfl
            have hcz23_1 : w8.cell? ⟨gb237, 1, none⟩ = some (.slice A0_1 l0_1.length c0_1) := (blk_cell BK237.out 1).trans rfl
            have hfz23_0 := blk_frozen BK237.out 0
            have hfz23_1 := blk_frozen BK237.out 1
            go_wp2_with (first | ((with_reducible refine gate_callee (f := 16) rfl ?_); refine goesL_ (some 22) rfl rfl Tryd.func16 (by kernel_rfl) rfl #[.agg #[.slice A0_0 l0_0.length c0_0, .slice A0_1 l0_1.length c0_1]] rfl (by (try simp only [List.map_toArray, List.map_cons, List.map_nil]); first | done | rfl | (simp only [List.length_drop, List.length_take]; rfl)) ?_; (with_reducible refine (supercargolaw02_heavy.calls _ _ l0_0 _ _ l0_1 false _ ?side1 ?side2 ?side3 ?side4 A9.out).mono ?_); (case side1 => repeat (first | exact (Kd.C_below HR0_0.out HB.out) | (with_reducible refine Kd.C_alloc ?_ _) | (with_reducible refine Kd.C_drewN ?_ _) | (with_reducible refine Kd.C_drew ?_))); (case side2 => exact HC0_0.out); (case side3 => repeat (first | exact (Kd.C_below HR0_1.out HB.out) | (with_reducible refine Kd.C_alloc ?_ _) | (with_reducible refine Kd.C_drewN ?_ _) | (with_reducible refine Kd.C_drew ?_))); (case side4 => exact HC0_1.out); rintro e w24 ⟨rfl, hb⟩; refine ⟨_, rfl, ?_⟩; have n0_ := Aside0.mk (blk_below (g := gb237) (o := .cells #[.slice A0_0 l0_0.length c0_0, .slice A0_1 l0_1.length c0_1] 31 (0, 0)) (by (with_reducible repeat (first | refine blk_drewN ?_ _ | refine blk_drew ?_ | refine blk_alloc ?_ _)); exact BK237.out) hb); have n1_ := Aside0.mk (below_step (by repeat (first | (with_reducible first | exact HB.out | apply below_alloc | apply pw_below_drewN | apply below_drew1 | refine below_set ?_ GE237.out) | exact HB.out)) hb); clear BK237; clear HB; have BK237 := n0_; have HB := n1_; clear n0_ n1_; (try clear hb); (try clear hb2); (try clear hk); (try clear hi)))
            go_meet
            case rel => exact ⟨_, (decide (a2 ≥ (-1048576))), (by first | rfl | (simp; done) | (simp [*]; done)), H', ⟨by first | omega | exact Nat.le_refl _⟩, ⟨by (with_reducible repeat (first | refine blk_drewN ?_ _ | refine blk_drew ?_ | refine blk_alloc ?_ _)); exact BK237.out⟩, ⟨by repeat (first | (with_reducible first | exact HB.out | apply below_alloc | apply pw_below_drewN | apply below_drew1 | refine below_set ?_ GE237.out) | exact HB.out)⟩⟩
          · rw [if_neg c22] at H
            have c22b0 : decide (a2 < (-300)) = false := decide_eq_false c22
            clear c22
            have H' := Aside0.mk H
            clear H
            have hcz25_0 : w8.cell? ⟨gb237, 0, none⟩ = some (.slice A0_0 l0_0.length c0_0) := (blk_cell BK237.out 0).trans rfl
            have hcz25_1 : w8.cell? ⟨gb237, 1, none⟩ = some (.slice A0_1 l0_1.length c0_1) := (blk_cell BK237.out 1).trans rfl
            have hfz25_0 := blk_frozen BK237.out 0
            have hfz25_1 := blk_frozen BK237.out 1
            go_wp2_with (first | ((with_reducible refine gate_callee (f := 16) rfl ?_); refine goesL_ (some 22) rfl rfl Tryd.func16 (by kernel_rfl) rfl #[.agg #[.slice A0_0 l0_0.length c0_0, .slice A0_1 l0_1.length c0_1]] rfl (by (try simp only [List.map_toArray, List.map_cons, List.map_nil]); first | done | rfl | (simp only [List.length_drop, List.length_take]; rfl)) ?_; (with_reducible refine (supercargolaw02_heavy.calls _ _ l0_0 _ _ l0_1 false _ ?side1 ?side2 ?side3 ?side4 A9.out).mono ?_); (case side1 => repeat (first | exact (Kd.C_below HR0_0.out HB.out) | (with_reducible refine Kd.C_alloc ?_ _) | (with_reducible refine Kd.C_drewN ?_ _) | (with_reducible refine Kd.C_drew ?_))); (case side2 => exact HC0_0.out); (case side3 => repeat (first | exact (Kd.C_below HR0_1.out HB.out) | (with_reducible refine Kd.C_alloc ?_ _) | (with_reducible refine Kd.C_drewN ?_ _) | (with_reducible refine Kd.C_drew ?_))); (case side4 => exact HC0_1.out); rintro e w26 ⟨rfl, hb⟩; refine ⟨_, rfl, ?_⟩; have n0_ := Aside0.mk (blk_below (g := gb237) (o := .cells #[.slice A0_0 l0_0.length c0_0, .slice A0_1 l0_1.length c0_1] 31 (0, 0)) (by (with_reducible repeat (first | refine blk_drewN ?_ _ | refine blk_drew ?_ | refine blk_alloc ?_ _)); exact BK237.out) hb); have n1_ := Aside0.mk (below_step (by repeat (first | (with_reducible first | exact HB.out | apply below_alloc | apply pw_below_drewN | apply below_drew1 | refine below_set ?_ GE237.out) | exact HB.out)) hb); clear BK237; clear HB; have BK237 := n0_; have HB := n1_; clear n0_ n1_; (try clear hb); (try clear hb2); (try clear hk); (try clear hi)))
            go_meet
            case rel => exact ⟨_, (false), (by first | rfl | (simp; done) | (simp [*]; done)), H', ⟨by first | omega | exact Nat.le_refl _⟩, ⟨by (with_reducible repeat (first | refine blk_drewN ?_ _ | refine blk_drew ?_ | refine blk_alloc ?_ _)); exact BK237.out⟩, ⟨by repeat (first | (with_reducible first | exact HB.out | apply below_alloc | apply pw_below_drewN | apply below_drew1 | refine below_set ?_ GE237.out) | exact HB.out)⟩⟩
    case rest =>
      clear HC6
      try clear c1
      try clear c2
      try clear p2
      try clear c4
      try clear c5
      try clear c10
      try clear c13
      try clear c13b0
      try clear c14
      try clear c14b0
      try clear c16
      try clear c17
      try clear c17b0
      try clear c22
      try clear c22b0
      try clear hcz11_0
      try clear hcz11_1
      try clear hcz15_0
      try clear hcz15_1
      try clear hcz18_0
      try clear hcz18_1
      try clear hcz20_0
      try clear hcz20_1
      try clear hcz23_0
      try clear hcz23_1
      try clear hcz25_0
      try clear hcz25_1
      try clear hfz11_0
      try clear hfz11_1
      try clear hfz15_0
      try clear hfz15_1
      try clear hfz18_0
      try clear hfz18_1
      try clear hfz20_0
      try clear hfz20_1
      try clear hfz23_0
      try clear hfz23_1
      try clear hfz25_0
      try clear hfz25_1
      obtain ⟨kq, x38_5, rfl, HA, HJ5, BK237, HB⟩ := hcut
      cases kq with
      | zero => exact absurd HA.out (by simp [supercargolaw02_DayWalks.j0])
      | succ kj5 =>
        have H := HA.out
        clear HA
        simp only [supercargolaw02_DayWalks.j0] at H
        by_cases c27 : x38_5 = true
        · subst c27
          have H1 : (some true) = some r := by rw [if_pos rfl] at H; exact H
          clear H
          have H := H1
          clear H1
          obtain rfl := Option.some.inj H
          go_wp2
          go_ret
          exact ⟨by first | rfl | (simp [errW_none, errW_some] <;> rfl) | (simp [*, errW_none, errW_some] <;> rfl), by repeat (first | (with_reducible first | exact HB.out | apply below_alloc | apply pw_below_drewN | apply below_drew1 | refine below_set ?_ GE237.out) | exact HB.out)⟩
        · replace c27 := Bool.eq_false_iff.mpr c27
          subst c27
          have H1 : ((day_Next.f kj5 l0_0 l0_1 a1).bind fun bt240 => ((day_Last.f kj5 l0_0 l0_1 a1).bind fun bt242 => ((day_Add.f kj5 l0_0 l0_1 a1 a2).bind fun bt244 => ((supercargoref02_Is.f a1).bind fun t246 => (if t246 = true then ((supercargoref02_Walk.f kj5 l0_0 l0_1 a1 1 1 true).bind fun bt247 => ((supercargoref02_Walk.f kj5 l0_0 l0_1 a1 (-1) 1 true).bind fun bt249 => (if bt240.1 = bt247.1 then (if (bt240.2 != bt247.2) = true then (supercargolaw02_DayWalks.j2 kj5 a1 a2 bt244.1 bt244.2 bt247.1 bt247.2 true l0_0 l0_1) else (if bt242.1 = bt249.1 then (supercargolaw02_DayWalks.j2 kj5 a1 a2 bt244.1 bt244.2 bt247.1 bt247.2 (bt242.2 != bt249.2) l0_0 l0_1) else (supercargolaw02_DayWalks.j2 kj5 a1 a2 bt244.1 bt244.2 bt247.1 bt247.2 true l0_0 l0_1))) else (supercargolaw02_DayWalks.j2 kj5 a1 a2 bt244.1 bt244.2 bt247.1 bt247.2 true l0_0 l0_1)))) else (if bt240.1 = 0 then (if bt240.2 = true then (supercargolaw02_DayWalks.j1 kj5 false) else (if bt242.1 = 0 then (if bt242.2 = true then (supercargolaw02_DayWalks.j1 kj5 false) else (if bt244.1 = 0 then (supercargolaw02_DayWalks.j1 kj5 (!bt244.2)) else (supercargolaw02_DayWalks.j1 kj5 false))) else (supercargolaw02_DayWalks.j1 kj5 false))) else (supercargolaw02_DayWalks.j1 kj5 false))))))) = some r := by rw [if_neg (show ¬ (false = true) by decide)] at H; exact H
          clear H
          have H := H1
          clear H1
          replace H := Option.bind_eq_some_iff.mp H
          obtain ⟨⟨t240, t241⟩, A280, H⟩ := H
          replace H : ((day_Last.f kj5 l0_0 l0_1 a1).bind fun bt242 => ((day_Add.f kj5 l0_0 l0_1 a1 a2).bind fun bt244 => ((supercargoref02_Is.f a1).bind fun t246 => (if t246 = true then ((supercargoref02_Walk.f kj5 l0_0 l0_1 a1 1 1 true).bind fun bt247 => ((supercargoref02_Walk.f kj5 l0_0 l0_1 a1 (-1) 1 true).bind fun bt249 => (if t240 = bt247.1 then (if (t241 != bt247.2) = true then (supercargolaw02_DayWalks.j2 kj5 a1 a2 bt244.1 bt244.2 bt247.1 bt247.2 true l0_0 l0_1) else (if bt242.1 = bt249.1 then (supercargolaw02_DayWalks.j2 kj5 a1 a2 bt244.1 bt244.2 bt247.1 bt247.2 (bt242.2 != bt249.2) l0_0 l0_1) else (supercargolaw02_DayWalks.j2 kj5 a1 a2 bt244.1 bt244.2 bt247.1 bt247.2 true l0_0 l0_1))) else (supercargolaw02_DayWalks.j2 kj5 a1 a2 bt244.1 bt244.2 bt247.1 bt247.2 true l0_0 l0_1)))) else (if t240 = 0 then (if t241 = true then (supercargolaw02_DayWalks.j1 kj5 false) else (if bt242.1 = 0 then (if bt242.2 = true then (supercargolaw02_DayWalks.j1 kj5 false) else (if bt244.1 = 0 then (supercargolaw02_DayWalks.j1 kj5 (!bt244.2)) else (supercargolaw02_DayWalks.j1 kj5 false))) else (supercargolaw02_DayWalks.j1 kj5 false))) else (supercargolaw02_DayWalks.j1 kj5 false)))))) = some r := H
          have A28 := Aside0.mk A280
          clear A280
          replace H := Option.bind_eq_some_iff.mp H
          obtain ⟨⟨t242, t243⟩, A290, H⟩ := H
          replace H : ((day_Add.f kj5 l0_0 l0_1 a1 a2).bind fun bt244 => ((supercargoref02_Is.f a1).bind fun t246 => (if t246 = true then ((supercargoref02_Walk.f kj5 l0_0 l0_1 a1 1 1 true).bind fun bt247 => ((supercargoref02_Walk.f kj5 l0_0 l0_1 a1 (-1) 1 true).bind fun bt249 => (if t240 = bt247.1 then (if (t241 != bt247.2) = true then (supercargolaw02_DayWalks.j2 kj5 a1 a2 bt244.1 bt244.2 bt247.1 bt247.2 true l0_0 l0_1) else (if t242 = bt249.1 then (supercargolaw02_DayWalks.j2 kj5 a1 a2 bt244.1 bt244.2 bt247.1 bt247.2 (t243 != bt249.2) l0_0 l0_1) else (supercargolaw02_DayWalks.j2 kj5 a1 a2 bt244.1 bt244.2 bt247.1 bt247.2 true l0_0 l0_1))) else (supercargolaw02_DayWalks.j2 kj5 a1 a2 bt244.1 bt244.2 bt247.1 bt247.2 true l0_0 l0_1)))) else (if t240 = 0 then (if t241 = true then (supercargolaw02_DayWalks.j1 kj5 false) else (if t242 = 0 then (if t243 = true then (supercargolaw02_DayWalks.j1 kj5 false) else (if bt244.1 = 0 then (supercargolaw02_DayWalks.j1 kj5 (!bt244.2)) else (supercargolaw02_DayWalks.j1 kj5 false))) else (supercargolaw02_DayWalks.j1 kj5 false))) else (supercargolaw02_DayWalks.j1 kj5 false))))) = some r := H
          have A29 := Aside0.mk A290
          clear A290
          replace H := Option.bind_eq_some_iff.mp H
          obtain ⟨⟨t244, t245⟩, A300, H⟩ := H
          replace H : ((supercargoref02_Is.f a1).bind fun t246 => (if t246 = true then ((supercargoref02_Walk.f kj5 l0_0 l0_1 a1 1 1 true).bind fun bt247 => ((supercargoref02_Walk.f kj5 l0_0 l0_1 a1 (-1) 1 true).bind fun bt249 => (if t240 = bt247.1 then (if (t241 != bt247.2) = true then (supercargolaw02_DayWalks.j2 kj5 a1 a2 t244 t245 bt247.1 bt247.2 true l0_0 l0_1) else (if t242 = bt249.1 then (supercargolaw02_DayWalks.j2 kj5 a1 a2 t244 t245 bt247.1 bt247.2 (t243 != bt249.2) l0_0 l0_1) else (supercargolaw02_DayWalks.j2 kj5 a1 a2 t244 t245 bt247.1 bt247.2 true l0_0 l0_1))) else (supercargolaw02_DayWalks.j2 kj5 a1 a2 t244 t245 bt247.1 bt247.2 true l0_0 l0_1)))) else (if t240 = 0 then (if t241 = true then (supercargolaw02_DayWalks.j1 kj5 false) else (if t242 = 0 then (if t243 = true then (supercargolaw02_DayWalks.j1 kj5 false) else (if t244 = 0 then (supercargolaw02_DayWalks.j1 kj5 (!t245)) else (supercargolaw02_DayWalks.j1 kj5 false))) else (supercargolaw02_DayWalks.j1 kj5 false))) else (supercargolaw02_DayWalks.j1 kj5 false)))) = some r := H
          have A30 := Aside0.mk A300
          clear A300
          replace H := Option.bind_eq_some_iff.mp H
          obtain ⟨t246, A310, H⟩ := H
          replace H : (if t246 = true then ((supercargoref02_Walk.f kj5 l0_0 l0_1 a1 1 1 true).bind fun bt247 => ((supercargoref02_Walk.f kj5 l0_0 l0_1 a1 (-1) 1 true).bind fun bt249 => (if t240 = bt247.1 then (if (t241 != bt247.2) = true then (supercargolaw02_DayWalks.j2 kj5 a1 a2 t244 t245 bt247.1 bt247.2 true l0_0 l0_1) else (if t242 = bt249.1 then (supercargolaw02_DayWalks.j2 kj5 a1 a2 t244 t245 bt247.1 bt247.2 (t243 != bt249.2) l0_0 l0_1) else (supercargolaw02_DayWalks.j2 kj5 a1 a2 t244 t245 bt247.1 bt247.2 true l0_0 l0_1))) else (supercargolaw02_DayWalks.j2 kj5 a1 a2 t244 t245 bt247.1 bt247.2 true l0_0 l0_1)))) else (if t240 = 0 then (if t241 = true then (supercargolaw02_DayWalks.j1 kj5 false) else (if t242 = 0 then (if t243 = true then (supercargolaw02_DayWalks.j1 kj5 false) else (if t244 = 0 then (supercargolaw02_DayWalks.j1 kj5 (!t245)) else (supercargolaw02_DayWalks.j1 kj5 false))) else (supercargolaw02_DayWalks.j1 kj5 false))) else (supercargolaw02_DayWalks.j1 kj5 false))) = some r := H
          have A31 := Aside0.mk A310
          clear A310
          by_cases c32 : t246 = true
          · subst c32
            have H1 : ((supercargoref02_Walk.f kj5 l0_0 l0_1 a1 1 1 true).bind fun bt247 => ((supercargoref02_Walk.f kj5 l0_0 l0_1 a1 (-1) 1 true).bind fun bt249 => (if t240 = bt247.1 then (if (t241 != bt247.2) = true then (supercargolaw02_DayWalks.j2 kj5 a1 a2 t244 t245 bt247.1 bt247.2 true l0_0 l0_1) else (if t242 = bt249.1 then (supercargolaw02_DayWalks.j2 kj5 a1 a2 t244 t245 bt247.1 bt247.2 (t243 != bt249.2) l0_0 l0_1) else (supercargolaw02_DayWalks.j2 kj5 a1 a2 t244 t245 bt247.1 bt247.2 true l0_0 l0_1))) else (supercargolaw02_DayWalks.j2 kj5 a1 a2 t244 t245 bt247.1 bt247.2 true l0_0 l0_1)))) = some r := by rw [if_pos rfl] at H; exact H
            clear H
            have H := H1
            clear H1
            replace H := Option.bind_eq_some_iff.mp H
            obtain ⟨⟨t247, t248⟩, A330, H⟩ := H
            replace H : ((supercargoref02_Walk.f kj5 l0_0 l0_1 a1 (-1) 1 true).bind fun bt249 => (if t240 = t247 then (if (t241 != t248) = true then (supercargolaw02_DayWalks.j2 kj5 a1 a2 t244 t245 t247 t248 true l0_0 l0_1) else (if t242 = bt249.1 then (supercargolaw02_DayWalks.j2 kj5 a1 a2 t244 t245 t247 t248 (t243 != bt249.2) l0_0 l0_1) else (supercargolaw02_DayWalks.j2 kj5 a1 a2 t244 t245 t247 t248 true l0_0 l0_1))) else (supercargolaw02_DayWalks.j2 kj5 a1 a2 t244 t245 t247 t248 true l0_0 l0_1))) = some r := H
            have A33 := Aside0.mk A330
            clear A330
            replace H := Option.bind_eq_some_iff.mp H
            obtain ⟨⟨t249, t250⟩, A340, H⟩ := H
            replace H : (if t240 = t247 then (if (t241 != t248) = true then (supercargolaw02_DayWalks.j2 kj5 a1 a2 t244 t245 t247 t248 true l0_0 l0_1) else (if t242 = t249 then (supercargolaw02_DayWalks.j2 kj5 a1 a2 t244 t245 t247 t248 (t243 != t250) l0_0 l0_1) else (supercargolaw02_DayWalks.j2 kj5 a1 a2 t244 t245 t247 t248 true l0_0 l0_1))) else (supercargolaw02_DayWalks.j2 kj5 a1 a2 t244 t245 t247 t248 true l0_0 l0_1)) = some r := H
            have A34 := Aside0.mk A340
            clear A340
            have HC35 := Aside0.mk H
            clear H
            have hcz36_0 : wc.cell? ⟨gb237, 0, none⟩ = some (.slice A0_0 l0_0.length c0_0) := (blk_cell BK237.out 0).trans rfl
            have hcz36_1 : wc.cell? ⟨gb237, 1, none⟩ = some (.slice A0_1 l0_1.length c0_1) := (blk_cell BK237.out 1).trans rfl
            have hfz36_0 := blk_frozen BK237.out 0
            have hfz36_1 := blk_frozen BK237.out 1
            go_upto_region 12 with (first | ((with_reducible refine gate_callee (f := 17) rfl ?_); refine goesL_ (some 42) rfl rfl Tryd.func17 (by kernel_rfl) rfl #[.agg #[.slice A0_0 l0_0.length c0_0, .slice A0_1 l0_1.length c0_1], .int .i64 a1] rfl (by (try simp only [List.map_toArray, List.map_cons, List.map_nil]); first | done | rfl | (simp only [List.length_drop, List.length_take]; rfl)) ?_; (with_reducible refine (day_Next.calls kj5 _ _ l0_0 _ _ l0_1 a1 t240 t241 _ ?side1 ?side2 ?side3 ?side4 A28.out).mono ?_); (case side1 => repeat (first | exact (Kd.C_below HR0_0.out HB.out) | (with_reducible refine Kd.C_alloc ?_ _) | (with_reducible refine Kd.C_drewN ?_ _) | (with_reducible refine Kd.C_drew ?_))); (case side2 => exact HC0_0.out); (case side3 => repeat (first | exact (Kd.C_below HR0_1.out HB.out) | (with_reducible refine Kd.C_alloc ?_ _) | (with_reducible refine Kd.C_drewN ?_ _) | (with_reducible refine Kd.C_drew ?_))); (case side4 => exact HC0_1.out); rintro e w37 ⟨rfl, hb⟩; refine ⟨_, rfl, ?_⟩; have n0_ := Aside0.mk (blk_below (g := gb237) (o := .cells #[.slice A0_0 l0_0.length c0_0, .slice A0_1 l0_1.length c0_1] 31 (0, 0)) (by (with_reducible repeat (first | refine blk_drewN ?_ _ | refine blk_drew ?_ | refine blk_alloc ?_ _)); exact BK237.out) hb); have n1_ := Aside0.mk (below_step (by repeat (first | (with_reducible first | exact HB.out | apply below_alloc | apply pw_below_drewN | apply below_drew1 | refine below_set ?_ GE237.out) | exact HB.out)) hb); clear BK237; clear HB; have BK237 := n0_; have HB := n1_; clear n0_ n1_; (try clear hb); (try clear hb2); (try clear hk); (try clear hi); have hcz38_0 : w37.cell? ⟨gb237, 0, none⟩ = some (.slice A0_0 l0_0.length c0_0) := (blk_cell BK237.out 0).trans rfl; have hcz38_1 : w37.cell? ⟨gb237, 1, none⟩ = some (.slice A0_1 l0_1.length c0_1) := (blk_cell BK237.out 1).trans rfl; have hfz38_0 := blk_frozen BK237.out 0; have hfz38_1 := blk_frozen BK237.out 1) | ((with_reducible refine gate_callee (f := 18) rfl ?_); refine goesL_ (some 48) rfl rfl Tryd.func18 (by kernel_rfl) rfl #[.agg #[.slice A0_0 l0_0.length c0_0, .slice A0_1 l0_1.length c0_1], .int .i64 a1] rfl (by (try simp only [List.map_toArray, List.map_cons, List.map_nil]); first | done | rfl | (simp only [List.length_drop, List.length_take]; rfl)) ?_; (with_reducible refine (day_Last.calls kj5 _ _ l0_0 _ _ l0_1 a1 t242 t243 _ ?side1 ?side2 ?side3 ?side4 A29.out).mono ?_); (case side1 => repeat (first | exact (Kd.C_below HR0_0.out HB.out) | (with_reducible refine Kd.C_alloc ?_ _) | (with_reducible refine Kd.C_drewN ?_ _) | (with_reducible refine Kd.C_drew ?_))); (case side2 => exact HC0_0.out); (case side3 => repeat (first | exact (Kd.C_below HR0_1.out HB.out) | (with_reducible refine Kd.C_alloc ?_ _) | (with_reducible refine Kd.C_drewN ?_ _) | (with_reducible refine Kd.C_drew ?_))); (case side4 => exact HC0_1.out); rintro e w39 ⟨rfl, hb⟩; refine ⟨_, rfl, ?_⟩; have n0_ := Aside0.mk (blk_below (g := gb237) (o := .cells #[.slice A0_0 l0_0.length c0_0, .slice A0_1 l0_1.length c0_1] 31 (0, 0)) (by (with_reducible repeat (first | refine blk_drewN ?_ _ | refine blk_drew ?_ | refine blk_alloc ?_ _)); exact BK237.out) hb); have n1_ := Aside0.mk (below_step (by repeat (first | (with_reducible first | exact HB.out | apply below_alloc | apply pw_below_drewN | apply below_drew1 | refine below_set ?_ GE237.out) | exact HB.out)) hb); clear BK237; clear HB; have BK237 := n0_; have HB := n1_; clear n0_ n1_; (try clear hb); (try clear hb2); (try clear hk); (try clear hi); have hcz40_0 : w39.cell? ⟨gb237, 0, none⟩ = some (.slice A0_0 l0_0.length c0_0) := (blk_cell BK237.out 0).trans rfl; have hcz40_1 : w39.cell? ⟨gb237, 1, none⟩ = some (.slice A0_1 l0_1.length c0_1) := (blk_cell BK237.out 1).trans rfl; have hfz40_0 := blk_frozen BK237.out 0; have hfz40_1 := blk_frozen BK237.out 1) | ((with_reducible refine gate_callee (f := 19) rfl ?_); refine goesL_ (some 55) rfl rfl Tryd.func19 (by kernel_rfl) rfl #[.agg #[.slice A0_0 l0_0.length c0_0, .slice A0_1 l0_1.length c0_1], .int .i64 a1, .int .i64 a2] rfl (by (try simp only [List.map_toArray, List.map_cons, List.map_nil]); first | done | rfl | (simp only [List.length_drop, List.length_take]; rfl)) ?_; (with_reducible refine (day_Add.calls kj5 _ _ l0_0 _ _ l0_1 a1 a2 t244 t245 _ ?side1 ?side2 ?side3 ?side4 A30.out).mono ?_); (case side1 => repeat (first | exact (Kd.C_below HR0_0.out HB.out) | (with_reducible refine Kd.C_alloc ?_ _) | (with_reducible refine Kd.C_drewN ?_ _) | (with_reducible refine Kd.C_drew ?_))); (case side2 => exact HC0_0.out); (case side3 => repeat (first | exact (Kd.C_below HR0_1.out HB.out) | (with_reducible refine Kd.C_alloc ?_ _) | (with_reducible refine Kd.C_drewN ?_ _) | (with_reducible refine Kd.C_drew ?_))); (case side4 => exact HC0_1.out); rintro e w41 ⟨rfl, hb⟩; refine ⟨_, rfl, ?_⟩; have n0_ := Aside0.mk (blk_below (g := gb237) (o := .cells #[.slice A0_0 l0_0.length c0_0, .slice A0_1 l0_1.length c0_1] 31 (0, 0)) (by (with_reducible repeat (first | refine blk_drewN ?_ _ | refine blk_drew ?_ | refine blk_alloc ?_ _)); exact BK237.out) hb); have n1_ := Aside0.mk (below_step (by repeat (first | (with_reducible first | exact HB.out | apply below_alloc | apply pw_below_drewN | apply below_drew1 | refine below_set ?_ GE237.out) | exact HB.out)) hb); clear BK237; clear HB; have BK237 := n0_; have HB := n1_; clear n0_ n1_; (try clear hb); (try clear hb2); (try clear hk); (try clear hi)) | ((with_reducible refine gate_callee (f := 14) rfl ?_); refine goesL_ (some 59) rfl rfl Tryd.func14 (by kernel_rfl) rfl #[.int .i64 a1] rfl (by (try simp only [List.map_toArray, List.map_cons, List.map_nil]); first | done | rfl | (simp only [List.length_drop, List.length_take]; rfl)) ?_; (with_reducible refine (supercargoref02_Is.calls a1 true _ A31.out).mono ?_); rintro e w' ⟨rfl, ⟨nd, rfl⟩⟩; refine ⟨_, rfl, ?_⟩; have hcz42_0 : w41.cell? ⟨gb237, 0, none⟩ = some (.slice A0_0 l0_0.length c0_0) := (blk_cell BK237.out 0).trans rfl; have hcz42_1 : w41.cell? ⟨gb237, 1, none⟩ = some (.slice A0_1 l0_1.length c0_1) := (blk_cell BK237.out 1).trans rfl; have hfz42_0 := blk_frozen BK237.out 0; have hfz42_1 := blk_frozen BK237.out 1) | ((with_reducible refine gate_callee (f := 20) rfl ?_); refine goesL_ (some 86) rfl rfl Tryd.func20 (by kernel_rfl) rfl #[.agg #[.slice A0_0 l0_0.length c0_0, .slice A0_1 l0_1.length c0_1], .int .i64 a1, .int .i64 1, .int .i64 1, .bool true] rfl (by (try simp only [List.map_toArray, List.map_cons, List.map_nil]); first | done | rfl | (simp only [List.length_drop, List.length_take]; rfl)) ?_; (with_reducible refine (supercargoref02_Walk.calls kj5 _ _ l0_0 _ _ l0_1 a1 1 1 true t247 t248 _ ?side1 ?side2 ?side3 ?side4 A33.out).mono ?_); (case side1 => repeat (first | exact (Kd.C_below HR0_0.out (by repeat (first | (with_reducible first | exact HB.out | apply below_alloc | apply pw_below_drewN | apply below_drew1 | refine below_set ?_ GE237.out) | exact HB.out))) | (with_reducible refine Kd.C_alloc ?_ _) | (with_reducible refine Kd.C_drewN ?_ _) | (with_reducible refine Kd.C_drew ?_))); (case side2 => exact HC0_0.out); (case side3 => repeat (first | exact (Kd.C_below HR0_1.out (by repeat (first | (with_reducible first | exact HB.out | apply below_alloc | apply pw_below_drewN | apply below_drew1 | refine below_set ?_ GE237.out) | exact HB.out))) | (with_reducible refine Kd.C_alloc ?_ _) | (with_reducible refine Kd.C_drewN ?_ _) | (with_reducible refine Kd.C_drew ?_))); (case side4 => exact HC0_1.out); rintro e w43 ⟨rfl, hb⟩; refine ⟨_, rfl, ?_⟩; have n0_ := Aside0.mk (blk_below (g := gb237) (o := .cells #[.slice A0_0 l0_0.length c0_0, .slice A0_1 l0_1.length c0_1] 31 (0, 0)) (by (with_reducible repeat (first | refine blk_drewN ?_ _ | refine blk_drew ?_ | refine blk_alloc ?_ _)); exact BK237.out) hb); have n1_ := Aside0.mk (below_step (by repeat (first | (with_reducible first | exact HB.out | apply below_alloc | apply pw_below_drewN | apply below_drew1 | refine below_set ?_ GE237.out) | exact HB.out)) hb); clear BK237; clear HB; have BK237 := n0_; have HB := n1_; clear n0_ n1_; (try clear hb); (try clear hb2); (try clear hk); (try clear hi); have hcz44_0 : w43.cell? ⟨gb237, 0, none⟩ = some (.slice A0_0 l0_0.length c0_0) := (blk_cell BK237.out 0).trans rfl; have hcz44_1 : w43.cell? ⟨gb237, 1, none⟩ = some (.slice A0_1 l0_1.length c0_1) := (blk_cell BK237.out 1).trans rfl; have hfz44_0 := blk_frozen BK237.out 0; have hfz44_1 := blk_frozen BK237.out 1) | ((with_reducible refine gate_callee (f := 20) rfl ?_); refine goesL_ (some 92) rfl rfl Tryd.func20 (by kernel_rfl) rfl #[.agg #[.slice A0_0 l0_0.length c0_0, .slice A0_1 l0_1.length c0_1], .int .i64 a1, .int .i64 (-1), .int .i64 1, .bool true] rfl (by (try simp only [List.map_toArray, List.map_cons, List.map_nil]); first | done | rfl | (simp only [List.length_drop, List.length_take]; rfl)) ?_; (with_reducible refine (supercargoref02_Walk.calls kj5 _ _ l0_0 _ _ l0_1 a1 (-1) 1 true t249 t250 _ ?side1 ?side2 ?side3 ?side4 A34.out).mono ?_); (case side1 => repeat (first | exact (Kd.C_below HR0_0.out HB.out) | (with_reducible refine Kd.C_alloc ?_ _) | (with_reducible refine Kd.C_drewN ?_ _) | (with_reducible refine Kd.C_drew ?_))); (case side2 => exact HC0_0.out); (case side3 => repeat (first | exact (Kd.C_below HR0_1.out HB.out) | (with_reducible refine Kd.C_alloc ?_ _) | (with_reducible refine Kd.C_drewN ?_ _) | (with_reducible refine Kd.C_drew ?_))); (case side4 => exact HC0_1.out); rintro e w45 ⟨rfl, hb⟩; refine ⟨_, rfl, ?_⟩; have n0_ := Aside0.mk (blk_below (g := gb237) (o := .cells #[.slice A0_0 l0_0.length c0_0, .slice A0_1 l0_1.length c0_1] 31 (0, 0)) (by (with_reducible repeat (first | refine blk_drewN ?_ _ | refine blk_drew ?_ | refine blk_alloc ?_ _)); exact BK237.out) hb); have n1_ := Aside0.mk (below_step (by repeat (first | (with_reducible first | exact HB.out | apply below_alloc | apply pw_below_drewN | apply below_drew1 | refine below_set ?_ GE237.out) | exact HB.out)) hb); clear BK237; clear HB; have BK237 := n0_; have HB := n1_; clear n0_ n1_; (try clear hb); (try clear hb2); (try clear hk); (try clear hi)))
            (try simp only [Act.put, List.setIfInBounds_toArray, List.set_cons_zero, List.set_cons_succ])
            go_cut [112] (fun v112 wc => ∃ (kq : Nat) (x112_34 : Bool), v112 = .bool x112_34 ∧ Aside0 (supercargolaw02_DayWalks.j2 kq a1 a2 t244 t245 t247 t248 x112_34 l0_0 l0_1 = some r) ∧ Aside0 (kq ≤ kj5) ∧ Aside0 (wc.heap[gb237]? = some (.cells #[(.slice A0_0 l0_0.length c0_0), (.slice A0_1 l0_1.length c0_1)] 31 (0, 0))) ∧ Aside0 (Below w.heap.size w wc))
            case first =>
              have H := HC35.out
              clear HC35
              by_cases c46 : t240 = t247
              · rw [if_pos c46] at H
                have c46b0 : (t240 == t247) = true := beq_iff_eq.mpr c46
                have c46b1 : (t240 != t247) = false := bne_eq_false_iff_eq.mpr c46
                clear c46
                (first | rw [c46b0] | (simp only [i64_w, i32_w]; rw [c46b0]) | skip)
                by_cases c47 : (t241 != t248) = true
                · rw [if_pos c47] at H
                  have c47b0 : (t241 != t248) = true := c47
                  (try (have c47b1 : decide (t241 = t248) = false := by simpa using c47))
                  (try (have c47b2 : (t241 == t248) = false := by simpa using c47))
                  (try (have c47b3 : ¬ (t241 = t248) := by simpa using c47))
                  clear c47
                  have H' := Aside0.mk H
                  clear H
                  go_wp2
                  go_meet
                  case rel => exact ⟨_, (true), (by first | rfl | (simp; done) | (simp [*]; done)), H', ⟨by have := HJ5.out; first | omega | exact Nat.le_refl _⟩, ⟨by (with_reducible repeat (first | refine blk_drewN ?_ _ | refine blk_drew ?_ | refine blk_alloc ?_ _)); exact BK237.out⟩, ⟨by repeat (first | (with_reducible first | exact HB.out | apply below_alloc | apply pw_below_drewN | apply below_drew1 | refine below_set ?_ GE237.out) | exact HB.out)⟩⟩
                · rw [if_neg c47] at H
                  have c47b0 : (t241 != t248) = false := by simpa using c47
                  (try (have c47b1 : decide (t241 = t248) = true := by simpa using c47))
                  (try (have c47b2 : (t241 == t248) = true := by simpa using c47))
                  clear c47
                  by_cases c48 : t242 = t249
                  · rw [if_pos c48] at H
                    have c48b0 : (t242 == t249) = true := beq_iff_eq.mpr c48
                    have c48b1 : (t242 != t249) = false := bne_eq_false_iff_eq.mpr c48
                    clear c48
                    have H' := Aside0.mk H
                    clear H
                    go_wp2
                    go_meet
                    case rel => exact ⟨_, ((t243 != t250)), (by first | rfl | (simp; done) | (simp [*]; done)), H', ⟨by have := HJ5.out; first | omega | exact Nat.le_refl _⟩, ⟨by (with_reducible repeat (first | refine blk_drewN ?_ _ | refine blk_drew ?_ | refine blk_alloc ?_ _)); exact BK237.out⟩, ⟨by repeat (first | (with_reducible first | exact HB.out | apply below_alloc | apply pw_below_drewN | apply below_drew1 | refine below_set ?_ GE237.out) | exact HB.out)⟩⟩
                  · rw [if_neg c48] at H
                    have c48b0 : (t242 == t249) = false := beq_eq_false_iff_ne.mpr c48
                    have c48b1 : (t242 != t249) = true := bne_iff_ne.mpr c48
                    have H' := Aside0.mk H
                    clear H
                    go_wp2
                    go_meet
                    case rel => exact ⟨_, (true), (by first | rfl | (simp; done) | (simp [*]; done)), H', ⟨by have := HJ5.out; first | omega | exact Nat.le_refl _⟩, ⟨by (with_reducible repeat (first | refine blk_drewN ?_ _ | refine blk_drew ?_ | refine blk_alloc ?_ _)); exact BK237.out⟩, ⟨by repeat (first | (with_reducible first | exact HB.out | apply below_alloc | apply pw_below_drewN | apply below_drew1 | refine below_set ?_ GE237.out) | exact HB.out)⟩⟩
              · rw [if_neg c46] at H
                have c46b0 : (t240 == t247) = false := beq_eq_false_iff_ne.mpr c46
                have c46b1 : (t240 != t247) = true := bne_iff_ne.mpr c46
                (first | rw [c46b0] | (simp only [i64_w, i32_w]; rw [c46b0]) | skip)
                have H' := Aside0.mk H
                clear H
                go_wp2
                go_meet
                case rel => exact ⟨_, (true), (by first | rfl | (simp; done) | (simp [*]; done)), H', ⟨by have := HJ5.out; first | omega | exact Nat.le_refl _⟩, ⟨by (with_reducible repeat (first | refine blk_drewN ?_ _ | refine blk_drew ?_ | refine blk_alloc ?_ _)); exact BK237.out⟩, ⟨by repeat (first | (with_reducible first | exact HB.out | apply below_alloc | apply pw_below_drewN | apply below_drew1 | refine below_set ?_ GE237.out) | exact HB.out)⟩⟩
            case rest =>
              clear HC35
              try clear c1
              try clear c2
              try clear p2
              try clear c3
              try clear c4
              try clear c5
              try clear c10
              try clear c13
              try clear c13b0
              try clear c14
              try clear c14b0
              try clear c16
              try clear c17
              try clear c17b0
              try clear c18
              try clear c19
              try clear c20
              try clear c22
              try clear c22b0
              try clear c27
              try clear c32
              try clear c46
              try clear c46b0
              try clear c46b1
              try clear c47
              try clear c47b0
              try clear c47b1
              try clear c47b2
              try clear c48
              try clear c48b0
              try clear c48b1
              try clear hcz11_0
              try clear hcz11_1
              try clear hcz15_0
              try clear hcz15_1
              try clear hcz18_0
              try clear hcz18_1
              try clear hcz20_0
              try clear hcz20_1
              try clear hcz23_0
              try clear hcz23_1
              try clear hcz25_0
              try clear hcz25_1
              try clear hcz36_0
              try clear hcz36_1
              try clear hcz38_0
              try clear hcz38_1
              try clear hcz40_0
              try clear hcz40_1
              try clear hcz42_0
              try clear hcz42_1
              try clear hcz44_0
              try clear hcz44_1
              try clear hfz11_0
              try clear hfz11_1
              try clear hfz15_0
              try clear hfz15_1
              try clear hfz18_0
              try clear hfz18_1
              try clear hfz20_0
              try clear hfz20_1
              try clear hfz23_0
              try clear hfz23_1
              try clear hfz25_0
              try clear hfz25_1
              try clear hfz36_0
              try clear hfz36_1
              try clear hfz38_0
              try clear hfz38_1
              try clear hfz40_0
              try clear hfz40_1
              try clear hfz42_0
              try clear hfz42_1
              try clear hfz44_0
              try clear hfz44_1
              try clear p2
              obtain ⟨kq, x112_34, rfl, HA, HJ34, BK237, HB⟩ := hcut
              cases kq with
              | zero => exact absurd HA.out (by simp [supercargolaw02_DayWalks.j2])
              | succ kj34 =>
                have H := HA.out
                clear HA
                simp only [supercargolaw02_DayWalks.j2] at H
                by_cases c49 : x112_34 = true
                · subst c49
                  have H1 : (some false) = some r := by rw [if_pos rfl] at H; exact H
                  clear H
                  have H := H1
                  clear H1
                  obtain rfl := Option.some.inj H
                  go_wp2
                  go_ret
                  exact ⟨by first | rfl | (simp [errW_none, errW_some] <;> rfl) | (simp [*, errW_none, errW_some] <;> rfl), by repeat (first | (with_reducible first | exact HB.out | apply below_alloc | apply pw_below_drewN | apply below_drew1 | refine below_set ?_ GE237.out) | exact HB.out)⟩
                · replace c49 := Bool.eq_false_iff.mpr c49
                  subst c49
                  have H1 : (if a2 > 0 then ((supercargoref02_Walk.f kj34 l0_0 l0_1 a1 1 a2 false).bind fun bt251 => (supercargolaw02_DayWalks.j3 kj34 a1 a2 t244 t245 bt251.1 bt251.2 l0_0 l0_1)) else (supercargolaw02_DayWalks.j3 kj34 a1 a2 t244 t245 t247 t248 l0_0 l0_1)) = some r := by rw [if_neg (show ¬ (false = true) by decide)] at H; exact H
                  clear H
                  have H := H1
                  clear H1
                  have HC50 := Aside0.mk H
                  clear H
                  go_upto_if 116 with (fail)
                  go_cut [17, 18] (fun v17 v18 wc => ∃ (kq : Nat) (x17_49 : Int) (x18_49 : Bool), v17 = .int .i64 x17_49 ∧ v18 = .bool x18_49 ∧ Aside0 (supercargolaw02_DayWalks.j3 kq a1 a2 t244 t245 x17_49 x18_49 l0_0 l0_1 = some r) ∧ Aside0 (kq ≤ kj34) ∧ Aside0 (wc.heap[gb237]? = some (.cells #[(.slice A0_0 l0_0.length c0_0), (.slice A0_1 l0_1.length c0_1)] 31 (0, 0))) ∧ Aside0 (Below w.heap.size w wc))
                  case first =>
                    have H := HC50.out
                    clear HC50
                    by_cases c51 : a2 > 0
                    · rw [if_pos c51] at H
                      have c51b0 : decide (0 < a2) = true := decide_eq_true c51
                      clear c51
                      (first | rw [c51b0] | (simp only [i64_w, i32_w]; rw [c51b0]) | skip)
                      replace H := Option.bind_eq_some_iff.mp H
                      obtain ⟨⟨t251, t252⟩, A520, H⟩ := H
                      replace H : (supercargolaw02_DayWalks.j3 kj34 a1 a2 t244 t245 t251 t252 l0_0 l0_1) = some r := H
                      have A52 := Aside0.mk A520
                      clear A520
                      have H' := Aside0.mk H
                      clear H
                      have hcz53_0 : wc.cell? ⟨gb237, 0, none⟩ = some (.slice A0_0 l0_0.length c0_0) := (blk_cell BK237.out 0).trans rfl
                      have hcz53_1 : wc.cell? ⟨gb237, 1, none⟩ = some (.slice A0_1 l0_1.length c0_1) := (blk_cell BK237.out 1).trans rfl
                      have hfz53_0 := blk_frozen BK237.out 0
                      have hfz53_1 := blk_frozen BK237.out 1
                      go_wp2_with (first | ((with_reducible refine gate_callee (f := 20) rfl ?_); refine goesL_ (some 121) rfl rfl Tryd.func20 (by kernel_rfl) rfl #[.agg #[.slice A0_0 l0_0.length c0_0, .slice A0_1 l0_1.length c0_1], .int .i64 a1, .int .i64 1, .int .i64 a2, .bool false] rfl (by (try simp only [List.map_toArray, List.map_cons, List.map_nil]); first | done | rfl | (simp only [List.length_drop, List.length_take]; rfl)) ?_; (with_reducible refine (supercargoref02_Walk.calls kj34 _ _ l0_0 _ _ l0_1 a1 1 a2 false t251 t252 _ ?side1 ?side2 ?side3 ?side4 A52.out).mono ?_); (case side1 => repeat (first | exact (Kd.C_below HR0_0.out HB.out) | (with_reducible refine Kd.C_alloc ?_ _) | (with_reducible refine Kd.C_drewN ?_ _) | (with_reducible refine Kd.C_drew ?_))); (case side2 => exact HC0_0.out); (case side3 => repeat (first | exact (Kd.C_below HR0_1.out HB.out) | (with_reducible refine Kd.C_alloc ?_ _) | (with_reducible refine Kd.C_drewN ?_ _) | (with_reducible refine Kd.C_drew ?_))); (case side4 => exact HC0_1.out); rintro e w54 ⟨rfl, hb⟩; refine ⟨_, rfl, ?_⟩; have n0_ := Aside0.mk (blk_below (g := gb237) (o := .cells #[.slice A0_0 l0_0.length c0_0, .slice A0_1 l0_1.length c0_1] 31 (0, 0)) (by (with_reducible repeat (first | refine blk_drewN ?_ _ | refine blk_drew ?_ | refine blk_alloc ?_ _)); exact BK237.out) hb); have n1_ := Aside0.mk (below_step (by repeat (first | (with_reducible first | exact HB.out | apply below_alloc | apply pw_below_drewN | apply below_drew1 | refine below_set ?_ GE237.out) | exact HB.out)) hb); clear BK237; clear HB; have BK237 := n0_; have HB := n1_; clear n0_ n1_; (try clear hb); (try clear hb2); (try clear hk); (try clear hi)))
                      go_meet
                      case rel => exact ⟨_, (t251), (t252), (by first | rfl | (simp; done) | (simp [*]; done)), (by first | rfl | (simp; done) | (simp [*]; done)), H', ⟨by have := HJ5.out; have := HJ34.out; first | omega | exact Nat.le_refl _⟩, ⟨by (with_reducible repeat (first | refine blk_drewN ?_ _ | refine blk_drew ?_ | refine blk_alloc ?_ _)); exact BK237.out⟩, ⟨by repeat (first | (with_reducible first | exact HB.out | apply below_alloc | apply pw_below_drewN | apply below_drew1 | refine below_set ?_ GE237.out) | exact HB.out)⟩⟩
                    · rw [if_neg c51] at H
                      have c51b0 : decide (0 < a2) = false := decide_eq_false c51
                      clear c51
                      (first | rw [c51b0] | (simp only [i64_w, i32_w]; rw [c51b0]) | skip)
                      have H' := Aside0.mk H
                      clear H
                      go_wp2
                      go_meet
                      case rel => exact ⟨_, (t247), (t248), (by first | rfl | (simp; done) | (simp [*]; done)), (by first | rfl | (simp; done) | (simp [*]; done)), H', ⟨by have := HJ5.out; have := HJ34.out; first | omega | exact Nat.le_refl _⟩, ⟨by (with_reducible repeat (first | refine blk_drewN ?_ _ | refine blk_drew ?_ | refine blk_alloc ?_ _)); exact BK237.out⟩, ⟨by repeat (first | (with_reducible first | exact HB.out | apply below_alloc | apply pw_below_drewN | apply below_drew1 | refine below_set ?_ GE237.out) | exact HB.out)⟩⟩
                  case rest =>
                    clear HC50
                    try clear c1
                    try clear c2
                    try clear p2
                    try clear c3
                    try clear c4
                    try clear c5
                    try clear c10
                    try clear c13
                    try clear c13b0
                    try clear c14
                    try clear c14b0
                    try clear c16
                    try clear c17
                    try clear c17b0
                    try clear c18
                    try clear c19
                    try clear c20
                    try clear c22
                    try clear c22b0
                    try clear c27
                    try clear c32
                    try clear c46
                    try clear c46b0
                    try clear c46b1
                    try clear c47
                    try clear c47b0
                    try clear c47b1
                    try clear c47b2
                    try clear c48
                    try clear c48b0
                    try clear c48b1
                    try clear c49
                    try clear c51
                    try clear c51b0
                    try clear hcz11_0
                    try clear hcz11_1
                    try clear hcz15_0
                    try clear hcz15_1
                    try clear hcz18_0
                    try clear hcz18_1
                    try clear hcz20_0
                    try clear hcz20_1
                    try clear hcz23_0
                    try clear hcz23_1
                    try clear hcz25_0
                    try clear hcz25_1
                    try clear hcz36_0
                    try clear hcz36_1
                    try clear hcz38_0
                    try clear hcz38_1
                    try clear hcz40_0
                    try clear hcz40_1
                    try clear hcz42_0
                    try clear hcz42_1
                    try clear hcz44_0
                    try clear hcz44_1
                    try clear hcz53_0
                    try clear hcz53_1
                    try clear hfz11_0
                    try clear hfz11_1
                    try clear hfz15_0
                    try clear hfz15_1
                    try clear hfz18_0
                    try clear hfz18_1
                    try clear hfz20_0
                    try clear hfz20_1
                    try clear hfz23_0
                    try clear hfz23_1
                    try clear hfz25_0
                    try clear hfz25_1
                    try clear hfz36_0
                    try clear hfz36_1
                    try clear hfz38_0
                    try clear hfz38_1
                    try clear hfz40_0
                    try clear hfz40_1
                    try clear hfz42_0
                    try clear hfz42_1
                    try clear hfz44_0
                    try clear hfz44_1
                    try clear hfz53_0
                    try clear hfz53_1
                    try clear p2
                    obtain ⟨kq, x17_49, x18_49, rfl, rfl, HA, HJ49, BK237, HB⟩ := hcut
                    cases kq with
                    | zero => exact absurd HA.out (by simp [supercargolaw02_DayWalks.j3])
                    | succ kj49 =>
                      have H := HA.out
                      clear HA
                      simp only [supercargolaw02_DayWalks.j3] at H
                      have HC55 := Aside0.mk H
                      clear H
                      go_upto_if 125 with (fail)
                      go_cut [17, 18] (fun v17 v18 wc => ∃ (kq : Nat) (x17_54 : Int) (x18_54 : Bool), v17 = .int .i64 x17_54 ∧ v18 = .bool x18_54 ∧ Aside0 (supercargolaw02_DayWalks.j4 kq a2 t244 t245 x17_54 x18_54 = some r) ∧ Aside0 (kq ≤ kj49) ∧ Aside0 (wc.heap[gb237]? = some (.cells #[(.slice A0_0 l0_0.length c0_0), (.slice A0_1 l0_1.length c0_1)] 31 (0, 0))) ∧ Aside0 (Below w.heap.size w wc))
                      case first =>
                        have H := HC55.out
                        clear HC55
                        by_cases c56 : a2 < 0
                        · rw [if_pos c56] at H
                          have c56b0 : decide (a2 < 0) = true := decide_eq_true c56
                          clear c56
                          (first | rw [c56b0] | (simp only [i64_w, i32_w]; rw [c56b0]) | skip)
                          replace H := Option.bind_eq_some_iff.mp H
                          obtain ⟨⟨t253, t254⟩, A570, H⟩ := H
                          replace H : (supercargolaw02_DayWalks.j4 kj49 a2 t244 t245 t253 t254) = some r := H
                          have A57 := Aside0.mk A570
                          clear A570
                          have H' := Aside0.mk H
                          clear H
                          have hcz58_0 : wc.cell? ⟨gb237, 0, none⟩ = some (.slice A0_0 l0_0.length c0_0) := (blk_cell BK237.out 0).trans rfl
                          have hcz58_1 : wc.cell? ⟨gb237, 1, none⟩ = some (.slice A0_1 l0_1.length c0_1) := (blk_cell BK237.out 1).trans rfl
                          have hfz58_0 := blk_frozen BK237.out 0
                          have hfz58_1 := blk_frozen BK237.out 1
                          go_wp2_with (first | ((with_reducible refine gate_callee (f := 20) rfl ?_); refine goesL_ (some 131) rfl rfl Tryd.func20 (by kernel_rfl) rfl #[.agg #[.slice A0_0 l0_0.length c0_0, .slice A0_1 l0_1.length c0_1], .int .i64 a1, .int .i64 (-1), .int .i64 (wrap64 (-a2)), .bool false] rfl (by (try simp only [List.map_toArray, List.map_cons, List.map_nil]); first | done | rfl | (simp only [List.length_drop, List.length_take]; rfl)) ?_; (with_reducible refine (supercargoref02_Walk.calls kj49 _ _ l0_0 _ _ l0_1 a1 (-1) (wrap64 (-a2)) false t253 t254 _ ?side1 ?side2 ?side3 ?side4 A57.out).mono ?_); (case side1 => repeat (first | exact (Kd.C_below HR0_0.out HB.out) | (with_reducible refine Kd.C_alloc ?_ _) | (with_reducible refine Kd.C_drewN ?_ _) | (with_reducible refine Kd.C_drew ?_))); (case side2 => exact HC0_0.out); (case side3 => repeat (first | exact (Kd.C_below HR0_1.out HB.out) | (with_reducible refine Kd.C_alloc ?_ _) | (with_reducible refine Kd.C_drewN ?_ _) | (with_reducible refine Kd.C_drew ?_))); (case side4 => exact HC0_1.out); rintro e w59 ⟨rfl, hb⟩; refine ⟨_, rfl, ?_⟩; have n0_ := Aside0.mk (blk_below (g := gb237) (o := .cells #[.slice A0_0 l0_0.length c0_0, .slice A0_1 l0_1.length c0_1] 31 (0, 0)) (by (with_reducible repeat (first | refine blk_drewN ?_ _ | refine blk_drew ?_ | refine blk_alloc ?_ _)); exact BK237.out) hb); have n1_ := Aside0.mk (below_step (by repeat (first | (with_reducible first | exact HB.out | apply below_alloc | apply pw_below_drewN | apply below_drew1 | refine below_set ?_ GE237.out) | exact HB.out)) hb); clear BK237; clear HB; have BK237 := n0_; have HB := n1_; clear n0_ n1_; (try clear hb); (try clear hb2); (try clear hk); (try clear hi)))
                          go_meet
                          case rel => exact ⟨_, (t253), (t254), (by first | rfl | (simp; done) | (simp [*]; done)), (by first | rfl | (simp; done) | (simp [*]; done)), H', ⟨by have := HJ5.out; have := HJ34.out; have := HJ49.out; first | omega | exact Nat.le_refl _⟩, ⟨by (with_reducible repeat (first | refine blk_drewN ?_ _ | refine blk_drew ?_ | refine blk_alloc ?_ _)); exact BK237.out⟩, ⟨by repeat (first | (with_reducible first | exact HB.out | apply below_alloc | apply pw_below_drewN | apply below_drew1 | refine below_set ?_ GE237.out) | exact HB.out)⟩⟩
                        · rw [if_neg c56] at H
                          have c56b0 : decide (a2 < 0) = false := decide_eq_false c56
                          clear c56
                          (first | rw [c56b0] | (simp only [i64_w, i32_w]; rw [c56b0]) | skip)
                          have H' := Aside0.mk H
                          clear H
                          go_wp2
                          go_meet
                          case rel => exact ⟨_, (x17_49), (x18_49), (by first | rfl | (simp; done) | (simp [*]; done)), (by first | rfl | (simp; done) | (simp [*]; done)), H', ⟨by have := HJ5.out; have := HJ34.out; have := HJ49.out; first | omega | exact Nat.le_refl _⟩, ⟨by (with_reducible repeat (first | refine blk_drewN ?_ _ | refine blk_drew ?_ | refine blk_alloc ?_ _)); exact BK237.out⟩, ⟨by repeat (first | (with_reducible first | exact HB.out | apply below_alloc | apply pw_below_drewN | apply below_drew1 | refine below_set ?_ GE237.out) | exact HB.out)⟩⟩
                      case rest =>
                        clear HC55
                        try clear c1
                        try clear c2
                        try clear p2
                        try clear c3
                        try clear c4
                        try clear c5
                        try clear p6
                        try clear c10
                        try clear c13
                        try clear c13b0
                        try clear c14
                        try clear c14b0
                        try clear c16
                        try clear c17
                        try clear c17b0
                        try clear c18
                        try clear c19
                        try clear c20
                        try clear c22
                        try clear c22b0
                        try clear c27
                        try clear c32
                        try clear c46
                        try clear c46b0
                        try clear c46b1
                        try clear c47
                        try clear c47b0
                        try clear c47b1
                        try clear c47b2
                        try clear c48
                        try clear c48b0
                        try clear c48b1
                        try clear c49
                        try clear c51
                        try clear c51b0
                        try clear c56
                        try clear c56b0
                        try clear hcz11_0
                        try clear hcz11_1
                        try clear hcz15_0
                        try clear hcz15_1
                        try clear hcz18_0
                        try clear hcz18_1
                        try clear hcz20_0
                        try clear hcz20_1
                        try clear hcz23_0
                        try clear hcz23_1
                        try clear hcz25_0
                        try clear hcz25_1
                        try clear hcz36_0
                        try clear hcz36_1
                        try clear hcz38_0
                        try clear hcz38_1
                        try clear hcz40_0
                        try clear hcz40_1
                        try clear hcz42_0
                        try clear hcz42_1
                        try clear hcz44_0
                        try clear hcz44_1
                        try clear hcz53_0
                        try clear hcz53_1
                        try clear hcz58_0
                        try clear hcz58_1
                        try clear hfz11_0
                        try clear hfz11_1
                        try clear hfz15_0
                        try clear hfz15_1
                        try clear hfz18_0
                        try clear hfz18_1
                        try clear hfz20_0
                        try clear hfz20_1
                        try clear hfz23_0
                        try clear hfz23_1
                        try clear hfz25_0
                        try clear hfz25_1
                        try clear hfz36_0
                        try clear hfz36_1
                        try clear hfz38_0
                        try clear hfz38_1
                        try clear hfz40_0
                        try clear hfz40_1
                        try clear hfz42_0
                        try clear hfz42_1
                        try clear hfz44_0
                        try clear hfz44_1
                        try clear hfz53_0
                        try clear hfz53_1
                        try clear hfz58_0
                        try clear hfz58_1
                        try clear p2
                        obtain ⟨kq, x17_54, x18_54, rfl, rfl, HA, HJ54, BK237, HB⟩ := hcut
                        cases kq with
                        | zero => exact absurd HA.out (by simp [supercargolaw02_DayWalks.j4])
                        | succ kj54 =>
                          have H := HA.out
                          clear HA
                          simp only [supercargolaw02_DayWalks.j4] at H
                          have HC60 := Aside0.mk H
                          clear H
                          go_upto_region 19 with (fail)
                          go_cut [139] (fun v139 wc => ∃ (kq : Nat) (x139_59 : Bool), v139 = .bool x139_59 ∧ Aside0 (supercargolaw02_DayWalks.j5 kq t244 t245 x17_54 x18_54 x139_59 = some r) ∧ Aside0 (kq ≤ kj54) ∧ Aside0 (wc.heap[gb237]? = some (.cells #[(.slice A0_0 l0_0.length c0_0), (.slice A0_1 l0_1.length c0_1)] 31 (0, 0))) ∧ Aside0 (Below w.heap.size w wc))
                          case first =>
                            have H := HC60.out
                            clear HC60
                            by_cases c61 : a2 < (-1048576)
                            · rw [if_pos c61] at H
                              have c61b0 : decide (a2 < (-1048576)) = true := decide_eq_true c61
                              clear c61
                              (first | rw [c61b0] | (simp only [i64_w, i32_w]; rw [c61b0]) | skip)
                              have H' := Aside0.mk H
                              clear H
                              go_wp2
                              go_meet
                              case rel => exact ⟨_, (true), (by first | rfl | (simp; done) | (simp [*]; done)), H', ⟨by have := HJ5.out; have := HJ34.out; have := HJ49.out; have := HJ54.out; first | omega | exact Nat.le_refl _⟩, ⟨by (with_reducible repeat (first | refine blk_drewN ?_ _ | refine blk_drew ?_ | refine blk_alloc ?_ _)); exact BK237.out⟩, ⟨by repeat (first | (with_reducible first | exact HB.out | apply below_alloc | apply pw_below_drewN | apply below_drew1 | refine below_set ?_ GE237.out) | exact HB.out)⟩⟩
                            · rw [if_neg c61] at H
                              have c61b0 : decide (a2 < (-1048576)) = false := decide_eq_false c61
                              clear c61
                              (first | rw [c61b0] | (simp only [i64_w, i32_w]; rw [c61b0]) | skip)
                              have H' := Aside0.mk H
                              clear H
                              go_wp2
                              go_meet
                              case rel => exact ⟨_, (decide (a2 > 1048576)), (by first | rfl | (simp; done) | (simp [*]; done)), H', ⟨by have := HJ5.out; have := HJ34.out; have := HJ49.out; have := HJ54.out; first | omega | exact Nat.le_refl _⟩, ⟨by (with_reducible repeat (first | refine blk_drewN ?_ _ | refine blk_drew ?_ | refine blk_alloc ?_ _)); exact BK237.out⟩, ⟨by repeat (first | (with_reducible first | exact HB.out | apply below_alloc | apply pw_below_drewN | apply below_drew1 | refine below_set ?_ GE237.out) | exact HB.out)⟩⟩
                          case rest =>
                            clear HC60
                            try clear c1
                            try clear c2
                            try clear p2
                            try clear c3
                            try clear c4
                            try clear c5
                            try clear c6
                            try clear p6
                            try clear c10
                            try clear c13
                            try clear c13b0
                            try clear c14
                            try clear c14b0
                            try clear c16
                            try clear c17
                            try clear c17b0
                            try clear c18
                            try clear c19
                            try clear c20
                            try clear c22
                            try clear c22b0
                            try clear c27
                            try clear c32
                            try clear c46
                            try clear c46b0
                            try clear c46b1
                            try clear c47
                            try clear c47b0
                            try clear c47b1
                            try clear c47b2
                            try clear c48
                            try clear c48b0
                            try clear c48b1
                            try clear c49
                            try clear c51
                            try clear c51b0
                            try clear c56
                            try clear c56b0
                            try clear c61
                            try clear c61b0
                            try clear hcz11_0
                            try clear hcz11_1
                            try clear hcz15_0
                            try clear hcz15_1
                            try clear hcz18_0
                            try clear hcz18_1
                            try clear hcz20_0
                            try clear hcz20_1
                            try clear hcz23_0
                            try clear hcz23_1
                            try clear hcz25_0
                            try clear hcz25_1
                            try clear hcz36_0
                            try clear hcz36_1
                            try clear hcz38_0
                            try clear hcz38_1
                            try clear hcz40_0
                            try clear hcz40_1
                            try clear hcz42_0
                            try clear hcz42_1
                            try clear hcz44_0
                            try clear hcz44_1
                            try clear hcz53_0
                            try clear hcz53_1
                            try clear hcz58_0
                            try clear hcz58_1
                            try clear hfz11_0
                            try clear hfz11_1
                            try clear hfz15_0
                            try clear hfz15_1
                            try clear hfz18_0
                            try clear hfz18_1
                            try clear hfz20_0
                            try clear hfz20_1
                            try clear hfz23_0
                            try clear hfz23_1
                            try clear hfz25_0
                            try clear hfz25_1
                            try clear hfz36_0
                            try clear hfz36_1
                            try clear hfz38_0
                            try clear hfz38_1
                            try clear hfz40_0
                            try clear hfz40_1
                            try clear hfz42_0
                            try clear hfz42_1
                            try clear hfz44_0
                            try clear hfz44_1
                            try clear hfz53_0
                            try clear hfz53_1
                            try clear hfz58_0
                            try clear hfz58_1
                            try clear p2
                            try clear p6
                            obtain ⟨kq, x139_59, rfl, HA, HJ59, BK237, HB⟩ := hcut
                            cases kq with
                            | zero => exact absurd HA.out (by simp [supercargolaw02_DayWalks.j5])
                            | succ kj59 =>
                              have H := HA.out
                              clear HA
                              simp only [supercargolaw02_DayWalks.j5] at H
                              have HC62 := Aside0.mk H
                              clear H
                              go_upto_if 139 with (fail)
                              go_cut [17, 18] (fun v17 v18 wc => ∃ (kq : Nat) (x17_61 : Int) (x18_61 : Bool), v17 = .int .i64 x17_61 ∧ v18 = .bool x18_61 ∧ Aside0 (supercargolaw02_DayWalks.j6 kq t244 t245 x17_61 x18_61 = some r) ∧ Aside0 (kq ≤ kj59) ∧ Aside0 (wc.heap[gb237]? = some (.cells #[(.slice A0_0 l0_0.length c0_0), (.slice A0_1 l0_1.length c0_1)] 31 (0, 0))) ∧ Aside0 (Below w.heap.size w wc))
                              case first =>
                                have H := HC62.out
                                clear HC62
                                by_cases c63 : x139_59 = true
                                · subst c63
                                  have H1 : (supercargolaw02_DayWalks.j6 kj59 t244 t245 0 false) = some r := by rw [if_pos rfl] at H; exact H
                                  clear H
                                  have H := H1
                                  clear H1
                                  have H' := Aside0.mk H
                                  clear H
                                  go_wp2
                                  go_meet
                                  case rel => exact ⟨_, (0), (false), (by first | rfl | (simp; done) | (simp [*]; done)), (by first | rfl | (simp; done) | (simp [*]; done)), H', ⟨by have := HJ5.out; have := HJ34.out; have := HJ49.out; have := HJ54.out; have := HJ59.out; first | omega | exact Nat.le_refl _⟩, ⟨by (with_reducible repeat (first | refine blk_drewN ?_ _ | refine blk_drew ?_ | refine blk_alloc ?_ _)); exact BK237.out⟩, ⟨by repeat (first | (with_reducible first | exact HB.out | apply below_alloc | apply pw_below_drewN | apply below_drew1 | refine below_set ?_ GE237.out) | exact HB.out)⟩⟩
                                · replace c63 := Bool.eq_false_iff.mpr c63
                                  subst c63
                                  have H1 : (supercargolaw02_DayWalks.j6 kj59 t244 t245 x17_54 x18_54) = some r := by rw [if_neg (show ¬ (false = true) by decide)] at H; exact H
                                  clear H
                                  have H := H1
                                  clear H1
                                  have H' := Aside0.mk H
                                  clear H
                                  go_wp2
                                  go_meet
                                  case rel => exact ⟨_, (x17_54), (x18_54), (by first | rfl | (simp; done) | (simp [*]; done)), (by first | rfl | (simp; done) | (simp [*]; done)), H', ⟨by have := HJ5.out; have := HJ34.out; have := HJ49.out; have := HJ54.out; have := HJ59.out; first | omega | exact Nat.le_refl _⟩, ⟨by (with_reducible repeat (first | refine blk_drewN ?_ _ | refine blk_drew ?_ | refine blk_alloc ?_ _)); exact BK237.out⟩, ⟨by repeat (first | (with_reducible first | exact HB.out | apply below_alloc | apply pw_below_drewN | apply below_drew1 | refine below_set ?_ GE237.out) | exact HB.out)⟩⟩
                              case rest =>
                                clear HC62
                                try clear c1
                                try clear c2
                                try clear p2
                                try clear c3
                                try clear c4
                                try clear c5
                                try clear c6
                                try clear p6
                                try clear c10
                                try clear c13
                                try clear c13b0
                                try clear c14
                                try clear c14b0
                                try clear c16
                                try clear c17
                                try clear c17b0
                                try clear c18
                                try clear c19
                                try clear c20
                                try clear c22
                                try clear c22b0
                                try clear c27
                                try clear c32
                                try clear c46
                                try clear c46b0
                                try clear c46b1
                                try clear c47
                                try clear c47b0
                                try clear c47b1
                                try clear c47b2
                                try clear c48
                                try clear c48b0
                                try clear c48b1
                                try clear c49
                                try clear c51
                                try clear c51b0
                                try clear c56
                                try clear c56b0
                                try clear c61
                                try clear c61b0
                                try clear c63
                                try clear hcz11_0
                                try clear hcz11_1
                                try clear hcz15_0
                                try clear hcz15_1
                                try clear hcz18_0
                                try clear hcz18_1
                                try clear hcz20_0
                                try clear hcz20_1
                                try clear hcz23_0
                                try clear hcz23_1
                                try clear hcz25_0
                                try clear hcz25_1
                                try clear hcz36_0
                                try clear hcz36_1
                                try clear hcz38_0
                                try clear hcz38_1
                                try clear hcz40_0
                                try clear hcz40_1
                                try clear hcz42_0
                                try clear hcz42_1
                                try clear hcz44_0
                                try clear hcz44_1
                                try clear hcz53_0
                                try clear hcz53_1
                                try clear hcz58_0
                                try clear hcz58_1
                                try clear hfz11_0
                                try clear hfz11_1
                                try clear hfz15_0
                                try clear hfz15_1
                                try clear hfz18_0
                                try clear hfz18_1
                                try clear hfz20_0
                                try clear hfz20_1
                                try clear hfz23_0
                                try clear hfz23_1
                                try clear hfz25_0
                                try clear hfz25_1
                                try clear hfz36_0
                                try clear hfz36_1
                                try clear hfz38_0
                                try clear hfz38_1
                                try clear hfz40_0
                                try clear hfz40_1
                                try clear hfz42_0
                                try clear hfz42_1
                                try clear hfz44_0
                                try clear hfz44_1
                                try clear hfz53_0
                                try clear hfz53_1
                                try clear hfz58_0
                                try clear hfz58_1
                                try clear p2
                                try clear p6
                                obtain ⟨kq, x17_61, x18_61, rfl, rfl, HA, HJ61, BK237, HB⟩ := hcut
                                cases kq with
                                | zero => exact absurd HA.out (by simp [supercargolaw02_DayWalks.j6])
                                | succ kj61 =>
                                  have H := HA.out
                                  clear HA
                                  simp only [supercargolaw02_DayWalks.j6] at H
                                  have HC64 := Aside0.mk H
                                  clear H
                                  go_upto_region 21 with (fail)
                                  go_cut [6] (fun v6 wc => ∃ (kq : Nat) (x6_63 : Bool), v6 = .bool x6_63 ∧ Aside0 (supercargolaw02_DayWalks.j7 kq x6_63 = some r) ∧ Aside0 (kq ≤ kj61) ∧ Aside0 (wc.heap[gb237]? = some (.cells #[(.slice A0_0 l0_0.length c0_0), (.slice A0_1 l0_1.length c0_1)] 31 (0, 0))) ∧ Aside0 (Below w.heap.size w wc))
                                  case first =>
                                    have H := HC64.out
                                    clear HC64
                                    by_cases c65 : t244 = x17_61
                                    · rw [if_pos c65] at H
                                      have c65b0 : (t244 == x17_61) = true := beq_iff_eq.mpr c65
                                      have c65b1 : (t244 != x17_61) = false := bne_eq_false_iff_eq.mpr c65
                                      clear c65
                                      (first | rw [c65b0] | (simp only [i64_w, i32_w]; rw [c65b0]) | skip)
                                      have H' := Aside0.mk H
                                      clear H
                                      go_wp2
                                      go_meet
                                      case rel => exact ⟨_, ((t245 == x18_61)), (by first | rfl | (simp; done) | (simp [*]; done)), H', ⟨by have := HJ5.out; have := HJ34.out; have := HJ49.out; have := HJ54.out; have := HJ59.out; have := HJ61.out; first | omega | exact Nat.le_refl _⟩, ⟨by (with_reducible repeat (first | refine blk_drewN ?_ _ | refine blk_drew ?_ | refine blk_alloc ?_ _)); exact BK237.out⟩, ⟨by repeat (first | (with_reducible first | exact HB.out | apply below_alloc | apply pw_below_drewN | apply below_drew1 | refine below_set ?_ GE237.out) | exact HB.out)⟩⟩
                                    · rw [if_neg c65] at H
                                      have c65b0 : (t244 == x17_61) = false := beq_eq_false_iff_ne.mpr c65
                                      have c65b1 : (t244 != x17_61) = true := bne_iff_ne.mpr c65
                                      (first | rw [c65b0] | (simp only [i64_w, i32_w]; rw [c65b0]) | skip)
                                      have H' := Aside0.mk H
                                      clear H
                                      go_wp2
                                      go_meet
                                      case rel => exact ⟨_, (false), (by first | rfl | (simp; done) | (simp [*]; done)), H', ⟨by have := HJ5.out; have := HJ34.out; have := HJ49.out; have := HJ54.out; have := HJ59.out; have := HJ61.out; first | omega | exact Nat.le_refl _⟩, ⟨by (with_reducible repeat (first | refine blk_drewN ?_ _ | refine blk_drew ?_ | refine blk_alloc ?_ _)); exact BK237.out⟩, ⟨by repeat (first | (with_reducible first | exact HB.out | apply below_alloc | apply pw_below_drewN | apply below_drew1 | refine below_set ?_ GE237.out) | exact HB.out)⟩⟩
                                  case rest =>
                                    clear HC64
                                    try clear c1
                                    try clear c2
                                    try clear p2
                                    try clear c3
                                    try clear c4
                                    try clear c5
                                    try clear c6
                                    try clear p6
                                    try clear c10
                                    try clear c13
                                    try clear c13b0
                                    try clear c14
                                    try clear c14b0
                                    try clear c16
                                    try clear c17
                                    try clear c17b0
                                    try clear c18
                                    try clear c19
                                    try clear c20
                                    try clear c22
                                    try clear c22b0
                                    try clear c27
                                    try clear c32
                                    try clear c46
                                    try clear c46b0
                                    try clear c46b1
                                    try clear c47
                                    try clear c47b0
                                    try clear c47b1
                                    try clear c47b2
                                    try clear c48
                                    try clear c48b0
                                    try clear c48b1
                                    try clear c49
                                    try clear c51
                                    try clear c51b0
                                    try clear c56
                                    try clear c56b0
                                    try clear c61
                                    try clear c61b0
                                    try clear c63
                                    try clear p64
                                    try clear c65
                                    try clear c65b0
                                    try clear c65b1
                                    try clear hcz11_0
                                    try clear hcz11_1
                                    try clear hcz15_0
                                    try clear hcz15_1
                                    try clear hcz18_0
                                    try clear hcz18_1
                                    try clear hcz20_0
                                    try clear hcz20_1
                                    try clear hcz23_0
                                    try clear hcz23_1
                                    try clear hcz25_0
                                    try clear hcz25_1
                                    try clear hcz36_0
                                    try clear hcz36_1
                                    try clear hcz38_0
                                    try clear hcz38_1
                                    try clear hcz40_0
                                    try clear hcz40_1
                                    try clear hcz42_0
                                    try clear hcz42_1
                                    try clear hcz44_0
                                    try clear hcz44_1
                                    try clear hcz53_0
                                    try clear hcz53_1
                                    try clear hcz58_0
                                    try clear hcz58_1
                                    try clear hfz11_0
                                    try clear hfz11_1
                                    try clear hfz15_0
                                    try clear hfz15_1
                                    try clear hfz18_0
                                    try clear hfz18_1
                                    try clear hfz20_0
                                    try clear hfz20_1
                                    try clear hfz23_0
                                    try clear hfz23_1
                                    try clear hfz25_0
                                    try clear hfz25_1
                                    try clear hfz36_0
                                    try clear hfz36_1
                                    try clear hfz38_0
                                    try clear hfz38_1
                                    try clear hfz40_0
                                    try clear hfz40_1
                                    try clear hfz42_0
                                    try clear hfz42_1
                                    try clear hfz44_0
                                    try clear hfz44_1
                                    try clear hfz53_0
                                    try clear hfz53_1
                                    try clear hfz58_0
                                    try clear hfz58_1
                                    try clear p2
                                    try clear p6
                                    obtain ⟨kq, x6_63, rfl, HA, HJ63, BK237, HB⟩ := hcut
                                    cases kq with
                                    | zero => exact absurd HA.out (by simp [supercargolaw02_DayWalks.j7])
                                    | succ kj63 =>
                                      have H := HA.out
                                      clear HA
                                      simp only [supercargolaw02_DayWalks.j7] at H
                                      obtain rfl := Option.some.inj H
                                      go_wp2
                                      go_ret
                                      exact ⟨by first | rfl | (simp [errW_none, errW_some] <;> rfl) | (simp [*, errW_none, errW_some] <;> rfl), by repeat (first | (with_reducible first | exact HB.out | apply below_alloc | apply pw_below_drewN | apply below_drew1 | refine below_set ?_ GE237.out) | exact HB.out)⟩
          · replace c32 := Bool.eq_false_iff.mpr c32
            subst c32
            have H1 : (if t240 = 0 then (if t241 = true then (supercargolaw02_DayWalks.j1 kj5 false) else (if t242 = 0 then (if t243 = true then (supercargolaw02_DayWalks.j1 kj5 false) else (if t244 = 0 then (supercargolaw02_DayWalks.j1 kj5 (!t245)) else (supercargolaw02_DayWalks.j1 kj5 false))) else (supercargolaw02_DayWalks.j1 kj5 false))) else (supercargolaw02_DayWalks.j1 kj5 false)) = some r := by rw [if_neg (show ¬ (false = true) by decide)] at H; exact H
            clear H
            have H := H1
            clear H1
            have HC66 := Aside0.mk H
            clear H
            have hcz67_0 : wc.cell? ⟨gb237, 0, none⟩ = some (.slice A0_0 l0_0.length c0_0) := (blk_cell BK237.out 0).trans rfl
            have hcz67_1 : wc.cell? ⟨gb237, 1, none⟩ = some (.slice A0_1 l0_1.length c0_1) := (blk_cell BK237.out 1).trans rfl
            have hfz67_0 := blk_frozen BK237.out 0
            have hfz67_1 := blk_frozen BK237.out 1
            go_upto_region 9 with (first | ((with_reducible refine gate_callee (f := 17) rfl ?_); refine goesL_ (some 42) rfl rfl Tryd.func17 (by kernel_rfl) rfl #[.agg #[.slice A0_0 l0_0.length c0_0, .slice A0_1 l0_1.length c0_1], .int .i64 a1] rfl (by (try simp only [List.map_toArray, List.map_cons, List.map_nil]); first | done | rfl | (simp only [List.length_drop, List.length_take]; rfl)) ?_; (with_reducible refine (day_Next.calls kj5 _ _ l0_0 _ _ l0_1 a1 t240 t241 _ ?side1 ?side2 ?side3 ?side4 A28.out).mono ?_); (case side1 => repeat (first | exact (Kd.C_below HR0_0.out HB.out) | (with_reducible refine Kd.C_alloc ?_ _) | (with_reducible refine Kd.C_drewN ?_ _) | (with_reducible refine Kd.C_drew ?_))); (case side2 => exact HC0_0.out); (case side3 => repeat (first | exact (Kd.C_below HR0_1.out HB.out) | (with_reducible refine Kd.C_alloc ?_ _) | (with_reducible refine Kd.C_drewN ?_ _) | (with_reducible refine Kd.C_drew ?_))); (case side4 => exact HC0_1.out); rintro e w68 ⟨rfl, hb⟩; refine ⟨_, rfl, ?_⟩; have n0_ := Aside0.mk (blk_below (g := gb237) (o := .cells #[.slice A0_0 l0_0.length c0_0, .slice A0_1 l0_1.length c0_1] 31 (0, 0)) (by (with_reducible repeat (first | refine blk_drewN ?_ _ | refine blk_drew ?_ | refine blk_alloc ?_ _)); exact BK237.out) hb); have n1_ := Aside0.mk (below_step (by repeat (first | (with_reducible first | exact HB.out | apply below_alloc | apply pw_below_drewN | apply below_drew1 | refine below_set ?_ GE237.out) | exact HB.out)) hb); clear BK237; clear HB; have BK237 := n0_; have HB := n1_; clear n0_ n1_; (try clear hb); (try clear hb2); (try clear hk); (try clear hi); have hcz69_0 : w68.cell? ⟨gb237, 0, none⟩ = some (.slice A0_0 l0_0.length c0_0) := (blk_cell BK237.out 0).trans rfl; have hcz69_1 : w68.cell? ⟨gb237, 1, none⟩ = some (.slice A0_1 l0_1.length c0_1) := (blk_cell BK237.out 1).trans rfl; have hfz69_0 := blk_frozen BK237.out 0; have hfz69_1 := blk_frozen BK237.out 1) | ((with_reducible refine gate_callee (f := 18) rfl ?_); refine goesL_ (some 48) rfl rfl Tryd.func18 (by kernel_rfl) rfl #[.agg #[.slice A0_0 l0_0.length c0_0, .slice A0_1 l0_1.length c0_1], .int .i64 a1] rfl (by (try simp only [List.map_toArray, List.map_cons, List.map_nil]); first | done | rfl | (simp only [List.length_drop, List.length_take]; rfl)) ?_; (with_reducible refine (day_Last.calls kj5 _ _ l0_0 _ _ l0_1 a1 t242 t243 _ ?side1 ?side2 ?side3 ?side4 A29.out).mono ?_); (case side1 => repeat (first | exact (Kd.C_below HR0_0.out HB.out) | (with_reducible refine Kd.C_alloc ?_ _) | (with_reducible refine Kd.C_drewN ?_ _) | (with_reducible refine Kd.C_drew ?_))); (case side2 => exact HC0_0.out); (case side3 => repeat (first | exact (Kd.C_below HR0_1.out HB.out) | (with_reducible refine Kd.C_alloc ?_ _) | (with_reducible refine Kd.C_drewN ?_ _) | (with_reducible refine Kd.C_drew ?_))); (case side4 => exact HC0_1.out); rintro e w70 ⟨rfl, hb⟩; refine ⟨_, rfl, ?_⟩; have n0_ := Aside0.mk (blk_below (g := gb237) (o := .cells #[.slice A0_0 l0_0.length c0_0, .slice A0_1 l0_1.length c0_1] 31 (0, 0)) (by (with_reducible repeat (first | refine blk_drewN ?_ _ | refine blk_drew ?_ | refine blk_alloc ?_ _)); exact BK237.out) hb); have n1_ := Aside0.mk (below_step (by repeat (first | (with_reducible first | exact HB.out | apply below_alloc | apply pw_below_drewN | apply below_drew1 | refine below_set ?_ GE237.out) | exact HB.out)) hb); clear BK237; clear HB; have BK237 := n0_; have HB := n1_; clear n0_ n1_; (try clear hb); (try clear hb2); (try clear hk); (try clear hi); have hcz71_0 : w70.cell? ⟨gb237, 0, none⟩ = some (.slice A0_0 l0_0.length c0_0) := (blk_cell BK237.out 0).trans rfl; have hcz71_1 : w70.cell? ⟨gb237, 1, none⟩ = some (.slice A0_1 l0_1.length c0_1) := (blk_cell BK237.out 1).trans rfl; have hfz71_0 := blk_frozen BK237.out 0; have hfz71_1 := blk_frozen BK237.out 1) | ((with_reducible refine gate_callee (f := 19) rfl ?_); refine goesL_ (some 55) rfl rfl Tryd.func19 (by kernel_rfl) rfl #[.agg #[.slice A0_0 l0_0.length c0_0, .slice A0_1 l0_1.length c0_1], .int .i64 a1, .int .i64 a2] rfl (by (try simp only [List.map_toArray, List.map_cons, List.map_nil]); first | done | rfl | (simp only [List.length_drop, List.length_take]; rfl)) ?_; (with_reducible refine (day_Add.calls kj5 _ _ l0_0 _ _ l0_1 a1 a2 t244 t245 _ ?side1 ?side2 ?side3 ?side4 A30.out).mono ?_); (case side1 => repeat (first | exact (Kd.C_below HR0_0.out HB.out) | (with_reducible refine Kd.C_alloc ?_ _) | (with_reducible refine Kd.C_drewN ?_ _) | (with_reducible refine Kd.C_drew ?_))); (case side2 => exact HC0_0.out); (case side3 => repeat (first | exact (Kd.C_below HR0_1.out HB.out) | (with_reducible refine Kd.C_alloc ?_ _) | (with_reducible refine Kd.C_drewN ?_ _) | (with_reducible refine Kd.C_drew ?_))); (case side4 => exact HC0_1.out); rintro e w72 ⟨rfl, hb⟩; refine ⟨_, rfl, ?_⟩; have n0_ := Aside0.mk (blk_below (g := gb237) (o := .cells #[.slice A0_0 l0_0.length c0_0, .slice A0_1 l0_1.length c0_1] 31 (0, 0)) (by (with_reducible repeat (first | refine blk_drewN ?_ _ | refine blk_drew ?_ | refine blk_alloc ?_ _)); exact BK237.out) hb); have n1_ := Aside0.mk (below_step (by repeat (first | (with_reducible first | exact HB.out | apply below_alloc | apply pw_below_drewN | apply below_drew1 | refine below_set ?_ GE237.out) | exact HB.out)) hb); clear BK237; clear HB; have BK237 := n0_; have HB := n1_; clear n0_ n1_; (try clear hb); (try clear hb2); (try clear hk); (try clear hi)) | ((with_reducible refine gate_callee (f := 14) rfl ?_); refine goesL_ (some 59) rfl rfl Tryd.func14 (by kernel_rfl) rfl #[.int .i64 a1] rfl (by (try simp only [List.map_toArray, List.map_cons, List.map_nil]); first | done | rfl | (simp only [List.length_drop, List.length_take]; rfl)) ?_; (with_reducible refine (supercargoref02_Is.calls a1 false _ A31.out).mono ?_); rintro e w' ⟨rfl, ⟨nd, rfl⟩⟩; refine ⟨_, rfl, ?_⟩))
            (try simp only [Act.put, List.setIfInBounds_toArray, List.set_cons_zero, List.set_cons_succ])
            go_cut [6] (fun v6 wc => ∃ (kq : Nat) (x6_65 : Bool), v6 = .bool x6_65 ∧ Aside0 (supercargolaw02_DayWalks.j1 kq x6_65 = some r) ∧ Aside0 (kq ≤ kj5) ∧ Aside0 (wc.heap[gb237]? = some (.cells #[(.slice A0_0 l0_0.length c0_0), (.slice A0_1 l0_1.length c0_1)] 31 (0, 0))) ∧ Aside0 (Below w.heap.size w wc))
            case first =>
              have H := HC66.out
              clear HC66
              by_cases c73 : t240 = 0
              · rw [if_pos c73] at H
                have c73b0 : (t240 == 0) = true := beq_iff_eq.mpr c73
                have c73b1 : (t240 != 0) = false := bne_eq_false_iff_eq.mpr c73
                clear c73
                (first | rw [c73b0] | (simp only [i64_w, i32_w]; rw [c73b0]) | skip)
                by_cases c74 : t241 = true
                · subst c74
                  have H1 : (supercargolaw02_DayWalks.j1 kj5 false) = some r := by rw [if_pos rfl] at H; exact H
                  clear H
                  have H := H1
                  clear H1
                  have H' := Aside0.mk H
                  clear H
                  go_wp2
                  go_meet
                  case rel => exact ⟨_, (false), (by first | rfl | (simp; done) | (simp [*]; done)), H', ⟨by have := HJ5.out; first | omega | exact Nat.le_refl _⟩, ⟨by (with_reducible repeat (first | refine blk_drewN ?_ _ | refine blk_drew ?_ | refine blk_alloc ?_ _)); exact BK237.out⟩, ⟨by repeat (first | (with_reducible first | exact HB.out | apply below_alloc | apply pw_below_drewN | apply below_drew1 | refine below_set ?_ GE237.out) | exact HB.out)⟩⟩
                · replace c74 := Bool.eq_false_iff.mpr c74
                  subst c74
                  have H1 : (if t242 = 0 then (if t243 = true then (supercargolaw02_DayWalks.j1 kj5 false) else (if t244 = 0 then (supercargolaw02_DayWalks.j1 kj5 (!t245)) else (supercargolaw02_DayWalks.j1 kj5 false))) else (supercargolaw02_DayWalks.j1 kj5 false)) = some r := by rw [if_neg (show ¬ (false = true) by decide)] at H; exact H
                  clear H
                  have H := H1
                  clear H1
                  by_cases c75 : t242 = 0
                  · rw [if_pos c75] at H
                    have c75b0 : (t242 == 0) = true := beq_iff_eq.mpr c75
                    have c75b1 : (t242 != 0) = false := bne_eq_false_iff_eq.mpr c75
                    clear c75
                    by_cases c76 : t243 = true
                    · subst c76
                      have H1 : (supercargolaw02_DayWalks.j1 kj5 false) = some r := by rw [if_pos rfl] at H; exact H
                      clear H
                      have H := H1
                      clear H1
                      have H' := Aside0.mk H
                      clear H
                      go_wp2
                      go_meet
                      case rel => exact ⟨_, (false), (by first | rfl | (simp; done) | (simp [*]; done)), H', ⟨by have := HJ5.out; first | omega | exact Nat.le_refl _⟩, ⟨by (with_reducible repeat (first | refine blk_drewN ?_ _ | refine blk_drew ?_ | refine blk_alloc ?_ _)); exact BK237.out⟩, ⟨by repeat (first | (with_reducible first | exact HB.out | apply below_alloc | apply pw_below_drewN | apply below_drew1 | refine below_set ?_ GE237.out) | exact HB.out)⟩⟩
                    · replace c76 := Bool.eq_false_iff.mpr c76
                      subst c76
                      have H1 : (if t244 = 0 then (supercargolaw02_DayWalks.j1 kj5 (!t245)) else (supercargolaw02_DayWalks.j1 kj5 false)) = some r := by rw [if_neg (show ¬ (false = true) by decide)] at H; exact H
                      clear H
                      have H := H1
                      clear H1
                      by_cases c77 : t244 = 0
                      · rw [if_pos c77] at H
                        have c77b0 : (t244 == 0) = true := beq_iff_eq.mpr c77
                        have c77b1 : (t244 != 0) = false := bne_eq_false_iff_eq.mpr c77
                        clear c77
                        have H' := Aside0.mk H
                        clear H
                        go_wp2
                        go_meet
                        case rel => exact ⟨_, (!t245), (by first | rfl | (simp; done) | (simp [*]; done)), H', ⟨by have := HJ5.out; first | omega | exact Nat.le_refl _⟩, ⟨by (with_reducible repeat (first | refine blk_drewN ?_ _ | refine blk_drew ?_ | refine blk_alloc ?_ _)); exact BK237.out⟩, ⟨by repeat (first | (with_reducible first | exact HB.out | apply below_alloc | apply pw_below_drewN | apply below_drew1 | refine below_set ?_ GE237.out) | exact HB.out)⟩⟩
                      · rw [if_neg c77] at H
                        have c77b0 : (t244 == 0) = false := beq_eq_false_iff_ne.mpr c77
                        have c77b1 : (t244 != 0) = true := bne_iff_ne.mpr c77
                        have H' := Aside0.mk H
                        clear H
                        go_wp2
                        go_meet
                        case rel => exact ⟨_, (false), (by first | rfl | (simp; done) | (simp [*]; done)), H', ⟨by have := HJ5.out; first | omega | exact Nat.le_refl _⟩, ⟨by (with_reducible repeat (first | refine blk_drewN ?_ _ | refine blk_drew ?_ | refine blk_alloc ?_ _)); exact BK237.out⟩, ⟨by repeat (first | (with_reducible first | exact HB.out | apply below_alloc | apply pw_below_drewN | apply below_drew1 | refine below_set ?_ GE237.out) | exact HB.out)⟩⟩
                  · rw [if_neg c75] at H
                    have c75b0 : (t242 == 0) = false := beq_eq_false_iff_ne.mpr c75
                    have c75b1 : (t242 != 0) = true := bne_iff_ne.mpr c75
                    have H' := Aside0.mk H
                    clear H
                    go_wp2
                    go_meet
                    case rel => exact ⟨_, (false), (by first | rfl | (simp; done) | (simp [*]; done)), H', ⟨by have := HJ5.out; first | omega | exact Nat.le_refl _⟩, ⟨by (with_reducible repeat (first | refine blk_drewN ?_ _ | refine blk_drew ?_ | refine blk_alloc ?_ _)); exact BK237.out⟩, ⟨by repeat (first | (with_reducible first | exact HB.out | apply below_alloc | apply pw_below_drewN | apply below_drew1 | refine below_set ?_ GE237.out) | exact HB.out)⟩⟩
              · rw [if_neg c73] at H
                have c73b0 : (t240 == 0) = false := beq_eq_false_iff_ne.mpr c73
                have c73b1 : (t240 != 0) = true := bne_iff_ne.mpr c73
                (first | rw [c73b0] | (simp only [i64_w, i32_w]; rw [c73b0]) | skip)
                have H' := Aside0.mk H
                clear H
                go_wp2
                go_meet
                case rel => exact ⟨_, (false), (by first | rfl | (simp; done) | (simp [*]; done)), H', ⟨by have := HJ5.out; first | omega | exact Nat.le_refl _⟩, ⟨by (with_reducible repeat (first | refine blk_drewN ?_ _ | refine blk_drew ?_ | refine blk_alloc ?_ _)); exact BK237.out⟩, ⟨by repeat (first | (with_reducible first | exact HB.out | apply below_alloc | apply pw_below_drewN | apply below_drew1 | refine below_set ?_ GE237.out) | exact HB.out)⟩⟩
            case rest =>
              clear HC66
              try clear c1
              try clear c2
              try clear p2
              try clear c3
              try clear c4
              try clear c5
              try clear c6
              try clear p6
              try clear c7
              try clear c10
              try clear c13
              try clear c13b0
              try clear c14
              try clear c14b0
              try clear c16
              try clear c17
              try clear c17b0
              try clear c18
              try clear c19
              try clear c20
              try clear c22
              try clear c22b0
              try clear c27
              try clear c32
              try clear c46
              try clear c46b0
              try clear c46b1
              try clear c47
              try clear c47b0
              try clear c47b1
              try clear c47b2
              try clear c48
              try clear c48b0
              try clear c48b1
              try clear c49
              try clear c51
              try clear c51b0
              try clear c56
              try clear c56b0
              try clear c61
              try clear c61b0
              try clear c63
              try clear p64
              try clear c65
              try clear c65b0
              try clear c65b1
              try clear c73
              try clear c73b0
              try clear c73b1
              try clear c74
              try clear c75
              try clear c75b0
              try clear c75b1
              try clear c76
              try clear c77
              try clear c77b0
              try clear c77b1
              try clear hcz11_0
              try clear hcz11_1
              try clear hcz15_0
              try clear hcz15_1
              try clear hcz18_0
              try clear hcz18_1
              try clear hcz20_0
              try clear hcz20_1
              try clear hcz23_0
              try clear hcz23_1
              try clear hcz25_0
              try clear hcz25_1
              try clear hcz36_0
              try clear hcz36_1
              try clear hcz38_0
              try clear hcz38_1
              try clear hcz40_0
              try clear hcz40_1
              try clear hcz42_0
              try clear hcz42_1
              try clear hcz44_0
              try clear hcz44_1
              try clear hcz53_0
              try clear hcz53_1
              try clear hcz58_0
              try clear hcz58_1
              try clear hcz67_0
              try clear hcz67_1
              try clear hcz69_0
              try clear hcz69_1
              try clear hcz71_0
              try clear hcz71_1
              try clear hfz11_0
              try clear hfz11_1
              try clear hfz15_0
              try clear hfz15_1
              try clear hfz18_0
              try clear hfz18_1
              try clear hfz20_0
              try clear hfz20_1
              try clear hfz23_0
              try clear hfz23_1
              try clear hfz25_0
              try clear hfz25_1
              try clear hfz36_0
              try clear hfz36_1
              try clear hfz38_0
              try clear hfz38_1
              try clear hfz40_0
              try clear hfz40_1
              try clear hfz42_0
              try clear hfz42_1
              try clear hfz44_0
              try clear hfz44_1
              try clear hfz53_0
              try clear hfz53_1
              try clear hfz58_0
              try clear hfz58_1
              try clear hfz67_0
              try clear hfz67_1
              try clear hfz69_0
              try clear hfz69_1
              try clear hfz71_0
              try clear hfz71_1
              try clear p2
              try clear p6
              try clear p64
              obtain ⟨kq, x6_65, rfl, HA, HJ65, BK237, HB⟩ := hcut
              cases kq with
              | zero => exact absurd HA.out (by simp [supercargolaw02_DayWalks.j1])
              | succ kj65 =>
                have H := HA.out
                clear HA
                simp only [supercargolaw02_DayWalks.j1] at H
                obtain rfl := Option.some.inj H
                go_wp2
                go_ret
                exact ⟨by first | rfl | (simp [errW_none, errW_some] <;> rfl) | (simp [*, errW_none, errW_some] <;> rfl), by repeat (first | (with_reducible first | exact HB.out | apply below_alloc | apply pw_below_drewN | apply below_drew1 | refine below_set ?_ GE237.out) | exact HB.out)⟩
  · replace c5 := Bool.eq_false_iff.mpr c5
    subst c5
    have H1 : (some false) = some r := by rw [if_neg (show ¬ (false = true) by decide)] at H; exact H
    clear H
    have H := H1
    clear H1
    obtain rfl := Option.some.inj H
    go_enter Tryd.func4, Tryd.ntmps4
    go_wp2_with (first | ((with_reducible refine gate_dst (N := 3) rfl ?_); refine box_event ?hg (N := 3) ?hd (cs := #[.slice A0_0 l0_0.length c0_0, .slice A0_1 l0_1.length c0_1]) (t := 31) ?hr ?_; (case hd => rfl); (case hg => rfl); (case hr => first | (go_simp; done) | (go_simp; rfl)); intro gb237 hg w78 hbox hb; have n0_ := Aside0.mk (below_step (by repeat (first | (with_reducible first | exact HB.out | apply below_alloc | apply pw_below_drewN | apply below_drew1) | exact HB.out)) hb); have n1_ := Aside0.mk (hbox); have n2_ := Aside0.mk ((by rw [hg]; exact (below_size (by repeat (first | (with_reducible first | exact HB.out | apply below_alloc | apply pw_below_drewN | apply below_drew1) | exact HB.out))) : w.heap.size ≤ gb237)); have n3_ := Aside0.mk ((by rw [hg]; exact (below_size (by repeat (first | (with_reducible first | exact HB.out | apply below_alloc | apply pw_below_drewN | apply below_drew1) | exact HB.out))) : w.heap.size ≤ gb237)); clear HB; have HB := n0_; have BK237 := n1_; have GW237 := n2_; have GE237 := n3_; clear n0_ n1_ n2_ n3_; clear hb hbox hg) | ((with_reducible refine gate_callee (f := 10) rfl ?_); refine goesL_ (some 19) rfl rfl Tryd.func10 (by kernel_rfl) rfl #[] rfl (by (try simp only [List.map_toArray, List.map_cons, List.map_nil]); first | done | rfl | (simp only [List.length_drop, List.length_take]; rfl)) ?_; (with_reducible refine (supercargolaw02_awake.calls k  false _ ?side1 A4.out).mono ?_); (case side1 => repeat (first | exact HT.out | exact Tabs_below HT.out (by repeat (first | (with_reducible first | exact HB.out | apply below_alloc | apply pw_below_drewN | apply below_drew1 | refine below_set ?_ GE237.out) | exact HB.out)) | (with_reducible refine Tabs_drewN ?_ _) | (with_reducible refine Tabs_drew ?_))); rintro e w79 ⟨rfl, hb⟩; refine ⟨_, rfl, ?_⟩; have n0_ := Aside0.mk (blk_below (g := gb237) (o := .cells #[.slice A0_0 l0_0.length c0_0, .slice A0_1 l0_1.length c0_1] 31 (0, 0)) (by (with_reducible repeat (first | refine blk_drewN ?_ _ | refine blk_drew ?_ | refine blk_alloc ?_ _)); exact BK237.out) hb); have n1_ := Aside0.mk (below_step (by repeat (first | (with_reducible first | exact HB.out | apply below_alloc | apply pw_below_drewN | apply below_drew1 | refine below_set ?_ GE237.out) | exact HB.out)) hb); clear BK237; clear HB; have BK237 := n0_; have HB := n1_; clear n0_ n1_; (try clear hb); (try clear hb2); (try clear hk); (try clear hi)))
    go_ret
    exact ⟨by first | rfl | (simp [errW_none, errW_some] <;> rfl) | (simp [*, errW_none, errW_some] <;> rfl), by repeat (first | (with_reducible first | exact HB.out | apply below_alloc | apply pw_below_drewN | apply below_drew1 | refine below_set ?_ GE237.out) | exact HB.out)⟩

end Go.Proofs.YtpmclpblnhjjeaaDoor.P
