-- Written by the session's own program xprint.py, which runs the kit's print over functions given by hand.
import Derived.Test.YtpmclpblnhjjeaaDoorPx0
import Derived.Test.YtpmclpblnhjjeaaDoorPx3
import Derived.Test.YtpmclpblnhjjeaaDoorPx5
import Derived.Test.YtpmclpblnhjjeaaDoorPx8
import Derived.Test.YtpmclpblnhjjeaaDoorPx9
namespace Go.Proofs.YtpmclpblnhjjeaaDoor.P
open Go.RowKit Go.Proofs.YtpmclpblnhjjeaaDoorW.PrintWords Go.Proofs.YtpmclpblnhjjeaaDoorW.PrintLast Go.Proofs.YtpmclpblnhjjeaaDoorW.PrintMore
attribute [local go_sem] max2_int min2_int max_two min_two max_three min_three max_four min_four   -- for this text's walks alone
set_option linter.unusedVariables false
set_option linter.unusedSimpArgs false

/-! ### supercargolaw02_DayMonths: function 3 -/
mutual
def supercargolaw02_DayMonths.j0 : Nat → Int → Int → Int → Int → Int → Int → Bool → Bool → Option (Bool)
  | 0, _, _, _, _, _, _, _, _ => none
  | k + 1, x0, x1, x5, x6, x7, x8, x9, x44 => if x44 = true then (some false) else ((supercargoref02_Is.f x0).bind fun t210 => (if t210 = true then ((supercargoref02_Month.f k x0).bind fun bt211 => (if x5 = bt211.1 then (if x6 = bt211.2.1 then (supercargolaw02_DayMonths.j2 k x0 x1 x8 x9 (x7 != bt211.2.2)) else (supercargolaw02_DayMonths.j2 k x0 x1 x8 x9 true)) else (supercargolaw02_DayMonths.j2 k x0 x1 x8 x9 true))) else (if x5 = 0 then (if x6 = 0 then (supercargolaw02_DayMonths.j1 k (x7 == 0)) else (supercargolaw02_DayMonths.j1 k false)) else (supercargolaw02_DayMonths.j1 k false))))
def supercargolaw02_DayMonths.j2 : Nat → Int → Int → Int → Bool → Bool → Option (Bool)
  | 0, _, _, _, _, _ => none
  | k + 1, x0, x1, x8, x9, x76 => if x76 = true then (some false) else (if x1 < (-40000) then (supercargolaw02_DayMonths.j3 k x0 x1 x8 true) else (if x1 ≥ 40000 then (supercargolaw02_DayMonths.j3 k x0 x1 x8 true) else (supercargolaw02_DayMonths.j3 k x0 x1 x8 (!x9))))
def supercargolaw02_DayMonths.j3 : Nat → Int → Int → Int → Bool → Option (Bool)
  | 0, _, _, _, _ => none
  | k + 1, x0, x1, x8, x86 => if x86 = true then (some true) else ((day_Tenor.f k x0 (wrap64 (x1 + 1))).bind fun bt214 => (if bt214.2 = true then (if bt214.1 > x8 then (supercargolaw02_DayMonths.j4 k (decide (bt214.1 ≤ (wrap64 ((wrap64 (x8 + 31)) + 3))))) else (supercargolaw02_DayMonths.j4 k false)) else (supercargolaw02_DayMonths.j4 k true)))
def supercargolaw02_DayMonths.j4 : Nat → Bool → Option (Bool)
  | 0, _ => none
  | k + 1, x4 => some x4
def supercargolaw02_DayMonths.j1 : Nat → Bool → Option (Bool)
  | 0, _ => none
  | k + 1, x4 => some x4
end
def supercargolaw02_DayMonths.f (k : Nat) (a0 : Int) (a1 : Int) : Option (Bool) := (supercargolaw02_awake.f k).bind fun t202 => (if t202 = true then ((day_Month.f k a0).bind fun bt203 => ((day_Tenor.f k a0 a1).bind fun bt206 => ((supercargoref02_Tenor.f k a0 a1).bind fun bt208 => (if bt206.1 = bt208.1 then (supercargolaw02_DayMonths.j0 k a0 a1 bt203.1 bt203.2.1 bt203.2.2 bt206.1 bt206.2 (bt206.2 != bt208.2)) else (supercargolaw02_DayMonths.j0 k a0 a1 bt203.1 bt203.2.1 bt203.2.2 bt206.1 bt206.2 true))))) else (some false))
theorem supercargolaw02_DayMonths.mono_l : ∀ k, (∀ y0 y1 y2 y3 y4 y5 y6 y7, LeO (supercargolaw02_DayMonths.j0 k y0 y1 y2 y3 y4 y5 y6 y7) (supercargolaw02_DayMonths.j0 (k + 1) y0 y1 y2 y3 y4 y5 y6 y7)) ∧ (∀ y0 y1 y2 y3 y4, LeO (supercargolaw02_DayMonths.j2 k y0 y1 y2 y3 y4) (supercargolaw02_DayMonths.j2 (k + 1) y0 y1 y2 y3 y4)) ∧ (∀ y0 y1 y2 y3, LeO (supercargolaw02_DayMonths.j3 k y0 y1 y2 y3) (supercargolaw02_DayMonths.j3 (k + 1) y0 y1 y2 y3)) ∧ (∀ y0, LeO (supercargolaw02_DayMonths.j4 k y0) (supercargolaw02_DayMonths.j4 (k + 1) y0)) ∧ (∀ y0, LeO (supercargolaw02_DayMonths.j1 k y0) (supercargolaw02_DayMonths.j1 (k + 1) y0))
  | 0 => ⟨fun _ _ _ _ _ _ _ _ r h => by simp [supercargolaw02_DayMonths.j0] at h, fun _ _ _ _ _ r h => by simp [supercargolaw02_DayMonths.j2] at h, fun _ _ _ _ r h => by simp [supercargolaw02_DayMonths.j3] at h, fun _ r h => by simp [supercargolaw02_DayMonths.j4] at h, fun _ r h => by simp [supercargolaw02_DayMonths.j1] at h⟩
  | k + 1 => by
    obtain ⟨ih0, ih1, ih2, ih3, ih4⟩ := supercargolaw02_DayMonths.mono_l k
    refine ⟨?_, ?_, ?_, ?_, ?_⟩
    · intro y0 y1 y2 y3 y4 y5 y6 y7
      unfold supercargolaw02_DayMonths.j0
      repeat' first
      | (with_reducible exact ih0 _ _ _ _ _ _ _ _)
      | (with_reducible exact ih1 _ _ _ _ _)
      | (with_reducible exact ih2 _ _ _ _)
      | (with_reducible exact ih3 _)
      | (with_reducible exact ih4 _)
      | (with_reducible exact day_Month.mono _ _)
      | (with_reducible exact day_Tenor.mono _ _ _)
      | (with_reducible exact supercargolaw02_awake.mono _)
      | (with_reducible exact supercargoref02_Month.mono _ _)
      | (with_reducible exact supercargoref02_Tenor.mono _ _ _)
      | (with_reducible exact LeO.refl _)
      | (with_reducible exact LeO.none _)
      | (with_reducible refine LeO.ite ?_ ?_)
      | (with_reducible refine LeO.bind ?_ (fun _ => ?_))
      | exact ih0 _ _ _ _ _ _ _ _
      | exact ih1 _ _ _ _ _
      | exact ih2 _ _ _ _
      | exact ih3 _
      | exact ih4 _
      | exact day_Month.mono _ _
      | exact day_Tenor.mono _ _ _
      | exact supercargolaw02_awake.mono _
      | exact supercargoref02_Month.mono _ _
      | exact supercargoref02_Tenor.mono _ _ _
      | exact LeO.none _
      | refine LeO.ite ?_ ?_
      | refine LeO.bind ?_ (fun _ => ?_)
    · intro y0 y1 y2 y3 y4
      unfold supercargolaw02_DayMonths.j2
      repeat' first
      | (with_reducible exact ih0 _ _ _ _ _ _ _ _)
      | (with_reducible exact ih1 _ _ _ _ _)
      | (with_reducible exact ih2 _ _ _ _)
      | (with_reducible exact ih3 _)
      | (with_reducible exact ih4 _)
      | (with_reducible exact day_Month.mono _ _)
      | (with_reducible exact day_Tenor.mono _ _ _)
      | (with_reducible exact supercargolaw02_awake.mono _)
      | (with_reducible exact supercargoref02_Month.mono _ _)
      | (with_reducible exact supercargoref02_Tenor.mono _ _ _)
      | (with_reducible exact LeO.refl _)
      | (with_reducible exact LeO.none _)
      | (with_reducible refine LeO.ite ?_ ?_)
      | (with_reducible refine LeO.bind ?_ (fun _ => ?_))
      | exact ih0 _ _ _ _ _ _ _ _
      | exact ih1 _ _ _ _ _
      | exact ih2 _ _ _ _
      | exact ih3 _
      | exact ih4 _
      | exact day_Month.mono _ _
      | exact day_Tenor.mono _ _ _
      | exact supercargolaw02_awake.mono _
      | exact supercargoref02_Month.mono _ _
      | exact supercargoref02_Tenor.mono _ _ _
      | exact LeO.none _
      | refine LeO.ite ?_ ?_
      | refine LeO.bind ?_ (fun _ => ?_)
    · intro y0 y1 y2 y3
      unfold supercargolaw02_DayMonths.j3
      repeat' first
      | (with_reducible exact ih0 _ _ _ _ _ _ _ _)
      | (with_reducible exact ih1 _ _ _ _ _)
      | (with_reducible exact ih2 _ _ _ _)
      | (with_reducible exact ih3 _)
      | (with_reducible exact ih4 _)
      | (with_reducible exact day_Month.mono _ _)
      | (with_reducible exact day_Tenor.mono _ _ _)
      | (with_reducible exact supercargolaw02_awake.mono _)
      | (with_reducible exact supercargoref02_Month.mono _ _)
      | (with_reducible exact supercargoref02_Tenor.mono _ _ _)
      | (with_reducible exact LeO.refl _)
      | (with_reducible exact LeO.none _)
      | (with_reducible refine LeO.ite ?_ ?_)
      | (with_reducible refine LeO.bind ?_ (fun _ => ?_))
      | exact ih0 _ _ _ _ _ _ _ _
      | exact ih1 _ _ _ _ _
      | exact ih2 _ _ _ _
      | exact ih3 _
      | exact ih4 _
      | exact day_Month.mono _ _
      | exact day_Tenor.mono _ _ _
      | exact supercargolaw02_awake.mono _
      | exact supercargoref02_Month.mono _ _
      | exact supercargoref02_Tenor.mono _ _ _
      | exact LeO.none _
      | refine LeO.ite ?_ ?_
      | refine LeO.bind ?_ (fun _ => ?_)
    · intro y0
      unfold supercargolaw02_DayMonths.j4
      repeat' first
      | (with_reducible exact ih0 _ _ _ _ _ _ _ _)
      | (with_reducible exact ih1 _ _ _ _ _)
      | (with_reducible exact ih2 _ _ _ _)
      | (with_reducible exact ih3 _)
      | (with_reducible exact ih4 _)
      | (with_reducible exact day_Month.mono _ _)
      | (with_reducible exact day_Tenor.mono _ _ _)
      | (with_reducible exact supercargolaw02_awake.mono _)
      | (with_reducible exact supercargoref02_Month.mono _ _)
      | (with_reducible exact supercargoref02_Tenor.mono _ _ _)
      | (with_reducible exact LeO.refl _)
      | (with_reducible exact LeO.none _)
      | (with_reducible refine LeO.ite ?_ ?_)
      | (with_reducible refine LeO.bind ?_ (fun _ => ?_))
      | exact ih0 _ _ _ _ _ _ _ _
      | exact ih1 _ _ _ _ _
      | exact ih2 _ _ _ _
      | exact ih3 _
      | exact ih4 _
      | exact day_Month.mono _ _
      | exact day_Tenor.mono _ _ _
      | exact supercargolaw02_awake.mono _
      | exact supercargoref02_Month.mono _ _
      | exact supercargoref02_Tenor.mono _ _ _
      | exact LeO.none _
      | refine LeO.ite ?_ ?_
      | refine LeO.bind ?_ (fun _ => ?_)
    · intro y0
      unfold supercargolaw02_DayMonths.j1
      repeat' first
      | (with_reducible exact ih0 _ _ _ _ _ _ _ _)
      | (with_reducible exact ih1 _ _ _ _ _)
      | (with_reducible exact ih2 _ _ _ _)
      | (with_reducible exact ih3 _)
      | (with_reducible exact ih4 _)
      | (with_reducible exact day_Month.mono _ _)
      | (with_reducible exact day_Tenor.mono _ _ _)
      | (with_reducible exact supercargolaw02_awake.mono _)
      | (with_reducible exact supercargoref02_Month.mono _ _)
      | (with_reducible exact supercargoref02_Tenor.mono _ _ _)
      | (with_reducible exact LeO.refl _)
      | (with_reducible exact LeO.none _)
      | (with_reducible refine LeO.ite ?_ ?_)
      | (with_reducible refine LeO.bind ?_ (fun _ => ?_))
      | exact ih0 _ _ _ _ _ _ _ _
      | exact ih1 _ _ _ _ _
      | exact ih2 _ _ _ _
      | exact ih3 _
      | exact ih4 _
      | exact day_Month.mono _ _
      | exact day_Tenor.mono _ _ _
      | exact supercargolaw02_awake.mono _
      | exact supercargoref02_Month.mono _ _
      | exact supercargoref02_Tenor.mono _ _ _
      | exact LeO.none _
      | refine LeO.ite ?_ ?_
      | refine LeO.bind ?_ (fun _ => ?_)
theorem supercargolaw02_DayMonths.mono : ∀ a0 a1 k, LeO (supercargolaw02_DayMonths.f k a0 a1) (supercargolaw02_DayMonths.f (k + 1) a0 a1) := by
  intro a0 a1 k
  obtain ⟨ih0, ih1, ih2, ih3, ih4⟩ := supercargolaw02_DayMonths.mono_l k
  unfold supercargolaw02_DayMonths.f
  repeat' first
      | (with_reducible exact ih0 _ _ _ _ _ _ _ _)
      | (with_reducible exact ih1 _ _ _ _ _)
      | (with_reducible exact ih2 _ _ _ _)
      | (with_reducible exact ih3 _)
      | (with_reducible exact ih4 _)
      | (with_reducible exact day_Month.mono _ _)
      | (with_reducible exact day_Tenor.mono _ _ _)
      | (with_reducible exact supercargolaw02_awake.mono _)
      | (with_reducible exact supercargoref02_Month.mono _ _)
      | (with_reducible exact supercargoref02_Tenor.mono _ _ _)
      | (with_reducible exact LeO.refl _)
      | (with_reducible exact LeO.none _)
      | (with_reducible refine LeO.ite ?_ ?_)
      | (with_reducible refine LeO.bind ?_ (fun _ => ?_))
      | exact ih0 _ _ _ _ _ _ _ _
      | exact ih1 _ _ _ _ _
      | exact ih2 _ _ _ _
      | exact ih3 _
      | exact ih4 _
      | exact day_Month.mono _ _
      | exact day_Tenor.mono _ _ _
      | exact supercargolaw02_awake.mono _
      | exact supercargoref02_Month.mono _ _
      | exact supercargoref02_Tenor.mono _ _ _
      | exact LeO.none _
      | refine LeO.ite ?_ ?_
      | refine LeO.bind ?_ (fun _ => ?_)
set_option maxHeartbeats 8000000 in
set_option maxRecDepth 100000 in
theorem supercargolaw02_DayMonths.calls (k : Nat) (a0 : Int) (a1 : Int) (r : Bool) (w : World) (hT : Tabs w) (h : supercargolaw02_DayMonths.f k a0 a1 = some r) :
    Calls Tryd.prog 3 #[.int .i64 a0, .int .i64 a1] w fun e w' => e = .returned (.bool r) ∧ Below w.heap.size w w' := by
  have HT := Aside0.mk hT
  clear hT
  have HB := Aside0.mk (Below.refl w.heap.size w)
  have H : ((supercargolaw02_awake.f k).bind fun t202 => (if t202 = true then ((day_Month.f k a0).bind fun bt203 => ((day_Tenor.f k a0 a1).bind fun bt206 => ((supercargoref02_Tenor.f k a0 a1).bind fun bt208 => (if bt206.1 = bt208.1 then (supercargolaw02_DayMonths.j0 k a0 a1 bt203.1 bt203.2.1 bt203.2.2 bt206.1 bt206.2 (bt206.2 != bt208.2)) else (supercargolaw02_DayMonths.j0 k a0 a1 bt203.1 bt203.2.1 bt203.2.2 bt206.1 bt206.2 true))))) else (some false))) = some r := h
  clear h
  replace H := Option.bind_eq_some_iff.mp H
  obtain ⟨t202, A30, H⟩ := H
  replace H : (if t202 = true then ((day_Month.f k a0).bind fun bt203 => ((day_Tenor.f k a0 a1).bind fun bt206 => ((supercargoref02_Tenor.f k a0 a1).bind fun bt208 => (if bt206.1 = bt208.1 then (supercargolaw02_DayMonths.j0 k a0 a1 bt203.1 bt203.2.1 bt203.2.2 bt206.1 bt206.2 (bt206.2 != bt208.2)) else (supercargolaw02_DayMonths.j0 k a0 a1 bt203.1 bt203.2.1 bt203.2.2 bt206.1 bt206.2 true))))) else (some false)) = some r := H
  have A3 := Aside0.mk A30
  clear A30
  by_cases c4 : t202 = true
  · subst c4
    have H1 : ((day_Month.f k a0).bind fun bt203 => ((day_Tenor.f k a0 a1).bind fun bt206 => ((supercargoref02_Tenor.f k a0 a1).bind fun bt208 => (if bt206.1 = bt208.1 then (supercargolaw02_DayMonths.j0 k a0 a1 bt203.1 bt203.2.1 bt203.2.2 bt206.1 bt206.2 (bt206.2 != bt208.2)) else (supercargolaw02_DayMonths.j0 k a0 a1 bt203.1 bt203.2.1 bt203.2.2 bt206.1 bt206.2 true))))) = some r := by rw [if_pos rfl] at H; exact H
    clear H
    have H := H1
    clear H1
    replace H := Option.bind_eq_some_iff.mp H
    obtain ⟨⟨t203, t204, t205⟩, A50, H⟩ := H
    replace H : ((day_Tenor.f k a0 a1).bind fun bt206 => ((supercargoref02_Tenor.f k a0 a1).bind fun bt208 => (if bt206.1 = bt208.1 then (supercargolaw02_DayMonths.j0 k a0 a1 t203 t204 t205 bt206.1 bt206.2 (bt206.2 != bt208.2)) else (supercargolaw02_DayMonths.j0 k a0 a1 t203 t204 t205 bt206.1 bt206.2 true)))) = some r := H
    have A5 := Aside0.mk A50
    clear A50
    replace H := Option.bind_eq_some_iff.mp H
    obtain ⟨⟨t206, t207⟩, A60, H⟩ := H
    replace H : ((supercargoref02_Tenor.f k a0 a1).bind fun bt208 => (if t206 = bt208.1 then (supercargolaw02_DayMonths.j0 k a0 a1 t203 t204 t205 t206 t207 (t207 != bt208.2)) else (supercargolaw02_DayMonths.j0 k a0 a1 t203 t204 t205 t206 t207 true))) = some r := H
    have A6 := Aside0.mk A60
    clear A60
    replace H := Option.bind_eq_some_iff.mp H
    obtain ⟨⟨t208, t209⟩, A70, H⟩ := H
    replace H : (if t206 = t208 then (supercargolaw02_DayMonths.j0 k a0 a1 t203 t204 t205 t206 t207 (t207 != t209)) else (supercargolaw02_DayMonths.j0 k a0 a1 t203 t204 t205 t206 t207 true)) = some r := H
    have A7 := Aside0.mk A70
    clear A70
    have HC8 := Aside0.mk H
    clear H
    go_enter Tryd.func3, Tryd.ntmps3
    go_upto_region 6 with (first | ((with_reducible refine gate_callee (f := 10) rfl ?_); refine goesL_ (some 17) rfl rfl Tryd.func10 (by kernel_rfl) rfl #[] rfl (by (try simp only [List.map_toArray, List.map_cons, List.map_nil]); first | done | rfl | (simp only [List.length_drop, List.length_take]; rfl)) ?_; (with_reducible refine (supercargolaw02_awake.calls k  true _ ?side1 A3.out).mono ?_); (case side1 => repeat (first | exact HT.out | exact Tabs_below HT.out (by repeat (first | (with_reducible first | exact HB.out | apply below_alloc | apply pw_below_drewN | apply below_drew1) | exact HB.out)) | (with_reducible refine Tabs_drewN ?_ _) | (with_reducible refine Tabs_drew ?_))); rintro e w9 ⟨rfl, hb⟩; refine ⟨_, rfl, ?_⟩; have n0_ := Aside0.mk (below_step (by repeat (first | (with_reducible first | exact HB.out | apply below_alloc | apply pw_below_drewN | apply below_drew1) | exact HB.out)) hb); clear HB; have HB := n0_; clear n0_; (try clear hb); (try clear hb2); (try clear hk); (try clear hi)) | ((with_reducible refine gate_callee (f := 11) rfl ?_); refine goesL_ (some 21) rfl rfl Tryd.func11 (by kernel_rfl) rfl #[.int .i64 a0] rfl (by (try simp only [List.map_toArray, List.map_cons, List.map_nil]); first | done | rfl | (simp only [List.length_drop, List.length_take]; rfl)) ?_; (with_reducible refine (day_Month.calls k a0 t203 t204 t205 _ ?side1 A5.out).mono ?_); (case side1 => repeat (first | exact HT.out | exact Tabs_below HT.out (by repeat (first | (with_reducible first | exact HB.out | apply below_alloc | apply pw_below_drewN | apply below_drew1) | exact HB.out)) | (with_reducible refine Tabs_drewN ?_ _) | (with_reducible refine Tabs_drew ?_))); rintro e w' ⟨rfl, ⟨nd, rfl⟩⟩; refine ⟨_, rfl, ?_⟩) | ((with_reducible refine gate_callee (f := 12) rfl ?_); refine goesL_ (some 28) rfl rfl Tryd.func12 (by kernel_rfl) rfl #[.int .i64 a0, .int .i64 a1] rfl (by (try simp only [List.map_toArray, List.map_cons, List.map_nil]); first | done | rfl | (simp only [List.length_drop, List.length_take]; rfl)) ?_; (with_reducible refine (day_Tenor.calls k a0 a1 t206 t207 _ ?side1 A6.out).mono ?_); (case side1 => repeat (first | exact HT.out | exact Tabs_below HT.out (by repeat (first | (with_reducible first | exact HB.out | apply below_alloc | apply pw_below_drewN | apply below_drew1) | exact HB.out)) | (with_reducible refine Tabs_drewN ?_ _) | (with_reducible refine Tabs_drew ?_))); rintro e w10 ⟨rfl, hb⟩; refine ⟨_, rfl, ?_⟩; have n0_ := Aside0.mk (below_step (by repeat (first | (with_reducible first | exact HB.out | apply below_alloc | apply pw_below_drewN | apply below_drew1) | exact HB.out)) hb); clear HB; have HB := n0_; clear n0_; (try clear hb); (try clear hb2); (try clear hk); (try clear hi)) | ((with_reducible refine gate_callee (f := 13) rfl ?_); refine goesL_ (some 34) rfl rfl Tryd.func13 (by kernel_rfl) rfl #[.int .i64 a0, .int .i64 a1] rfl (by (try simp only [List.map_toArray, List.map_cons, List.map_nil]); first | done | rfl | (simp only [List.length_drop, List.length_take]; rfl)) ?_; (with_reducible refine (supercargoref02_Tenor.calls k a0 a1 t208 t209 _ A7.out).mono ?_); rintro e w' ⟨rfl, ⟨nd, rfl⟩⟩; refine ⟨_, rfl, ?_⟩))
    (try simp only [Act.put, List.setIfInBounds_toArray, List.set_cons_zero, List.set_cons_succ])
    go_cut [44] (fun v44 wc => ∃ (kq : Nat) (x44_7 : Bool), v44 = .bool x44_7 ∧ Aside0 (supercargolaw02_DayMonths.j0 kq a0 a1 t203 t204 t205 t206 t207 x44_7 = some r) ∧ Aside0 (kq ≤ k) ∧ Aside0 (Below w.heap.size w wc))
    case first =>
      have H := HC8.out
      clear HC8
      by_cases c11 : t206 = t208
      · rw [if_pos c11] at H
        have c11b0 : (t206 == t208) = true := beq_iff_eq.mpr c11
        have c11b1 : (t206 != t208) = false := bne_eq_false_iff_eq.mpr c11
        clear c11
        (first | rw [c11b0] | (simp only [i64_w, i32_w]; rw [c11b0]) | skip)
        have H' := Aside0.mk H
        clear H
        go_wp2
        go_meet
        case rel => exact ⟨_, ((t207 != t209)), (by first | rfl | (simp; done) | (simp [*]; done)), H', ⟨by first | omega | exact Nat.le_refl _⟩, ⟨by repeat (first | (with_reducible first | exact HB.out | apply below_alloc | apply pw_below_drewN | apply below_drew1) | exact HB.out)⟩⟩
      · rw [if_neg c11] at H
        have c11b0 : (t206 == t208) = false := beq_eq_false_iff_ne.mpr c11
        have c11b1 : (t206 != t208) = true := bne_iff_ne.mpr c11
        (first | rw [c11b0] | (simp only [i64_w, i32_w]; rw [c11b0]) | skip)
        have H' := Aside0.mk H
        clear H
        go_wp2
        go_meet
        case rel => exact ⟨_, (true), (by first | rfl | (simp; done) | (simp [*]; done)), H', ⟨by first | omega | exact Nat.le_refl _⟩, ⟨by repeat (first | (with_reducible first | exact HB.out | apply below_alloc | apply pw_below_drewN | apply below_drew1) | exact HB.out)⟩⟩
    case rest =>
      clear HC8
      try clear c1
      try clear p2
      try clear c3
      try clear c4
      try clear c10
      try clear c11
      try clear c11b0
      try clear c11b1
      obtain ⟨kq, x44_7, rfl, HA, HJ7, HB⟩ := hcut
      cases kq with
      | zero => exact absurd HA.out (by simp [supercargolaw02_DayMonths.j0])
      | succ kj7 =>
        have H := HA.out
        clear HA
        simp only [supercargolaw02_DayMonths.j0] at H
        by_cases c12 : x44_7 = true
        · subst c12
          have H1 : (some false) = some r := by rw [if_pos rfl] at H; exact H
          clear H
          have H := H1
          clear H1
          obtain rfl := Option.some.inj H
          go_wp2
          go_ret
          exact ⟨by first | rfl | (simp [errW_none, errW_some] <;> rfl) | (simp [*, errW_none, errW_some] <;> rfl), by repeat (first | (with_reducible first | exact HB.out | apply below_alloc | apply pw_below_drewN | apply below_drew1) | exact HB.out)⟩
        · replace c12 := Bool.eq_false_iff.mpr c12
          subst c12
          have H1 : ((supercargoref02_Is.f a0).bind fun t210 => (if t210 = true then ((supercargoref02_Month.f kj7 a0).bind fun bt211 => (if t203 = bt211.1 then (if t204 = bt211.2.1 then (supercargolaw02_DayMonths.j2 kj7 a0 a1 t206 t207 (t205 != bt211.2.2)) else (supercargolaw02_DayMonths.j2 kj7 a0 a1 t206 t207 true)) else (supercargolaw02_DayMonths.j2 kj7 a0 a1 t206 t207 true))) else (if t203 = 0 then (if t204 = 0 then (supercargolaw02_DayMonths.j1 kj7 (t205 == 0)) else (supercargolaw02_DayMonths.j1 kj7 false)) else (supercargolaw02_DayMonths.j1 kj7 false)))) = some r := by rw [if_neg (show ¬ (false = true) by decide)] at H; exact H
          clear H
          have H := H1
          clear H1
          replace H := Option.bind_eq_some_iff.mp H
          obtain ⟨t210, A130, H⟩ := H
          replace H : (if t210 = true then ((supercargoref02_Month.f kj7 a0).bind fun bt211 => (if t203 = bt211.1 then (if t204 = bt211.2.1 then (supercargolaw02_DayMonths.j2 kj7 a0 a1 t206 t207 (t205 != bt211.2.2)) else (supercargolaw02_DayMonths.j2 kj7 a0 a1 t206 t207 true)) else (supercargolaw02_DayMonths.j2 kj7 a0 a1 t206 t207 true))) else (if t203 = 0 then (if t204 = 0 then (supercargolaw02_DayMonths.j1 kj7 (t205 == 0)) else (supercargolaw02_DayMonths.j1 kj7 false)) else (supercargolaw02_DayMonths.j1 kj7 false))) = some r := H
          have A13 := Aside0.mk A130
          clear A130
          by_cases c14 : t210 = true
          · subst c14
            have H1 : ((supercargoref02_Month.f kj7 a0).bind fun bt211 => (if t203 = bt211.1 then (if t204 = bt211.2.1 then (supercargolaw02_DayMonths.j2 kj7 a0 a1 t206 t207 (t205 != bt211.2.2)) else (supercargolaw02_DayMonths.j2 kj7 a0 a1 t206 t207 true)) else (supercargolaw02_DayMonths.j2 kj7 a0 a1 t206 t207 true))) = some r := by rw [if_pos rfl] at H; exact H
            clear H
            have H := H1
            clear H1
            replace H := Option.bind_eq_some_iff.mp H
            obtain ⟨⟨t211, t212, t213⟩, A150, H⟩ := H
            replace H : (if t203 = t211 then (if t204 = t212 then (supercargolaw02_DayMonths.j2 kj7 a0 a1 t206 t207 (t205 != t213)) else (supercargolaw02_DayMonths.j2 kj7 a0 a1 t206 t207 true)) else (supercargolaw02_DayMonths.j2 kj7 a0 a1 t206 t207 true)) = some r := H
            have A15 := Aside0.mk A150
            clear A150
            have HC16 := Aside0.mk H
            clear H
            go_upto_region 11 with (first | ((with_reducible refine gate_callee (f := 14) rfl ?_); refine goesL_ (some 46) rfl rfl Tryd.func14 (by kernel_rfl) rfl #[.int .i64 a0] rfl (by (try simp only [List.map_toArray, List.map_cons, List.map_nil]); first | done | rfl | (simp only [List.length_drop, List.length_take]; rfl)) ?_; (with_reducible refine (supercargoref02_Is.calls a0 true _ A13.out).mono ?_); rintro e w' ⟨rfl, ⟨nd, rfl⟩⟩; refine ⟨_, rfl, ?_⟩) | ((with_reducible refine gate_callee (f := 15) rfl ?_); refine goesL_ (some 60) rfl rfl Tryd.func15 (by kernel_rfl) rfl #[.int .i64 a0] rfl (by (try simp only [List.map_toArray, List.map_cons, List.map_nil]); first | done | rfl | (simp only [List.length_drop, List.length_take]; rfl)) ?_; (with_reducible refine (supercargoref02_Month.calls kj7 a0 t211 t212 t213 _ A15.out).mono ?_); rintro e w' ⟨rfl, ⟨nd, rfl⟩⟩; refine ⟨_, rfl, ?_⟩))
            (try simp only [Act.put, List.setIfInBounds_toArray, List.set_cons_zero, List.set_cons_succ])
            go_cut [76] (fun v76 wc => ∃ (kq : Nat) (x76_15 : Bool), v76 = .bool x76_15 ∧ Aside0 (supercargolaw02_DayMonths.j2 kq a0 a1 t206 t207 x76_15 = some r) ∧ Aside0 (kq ≤ kj7) ∧ Aside0 (Below w.heap.size w wc))
            case first =>
              have H := HC16.out
              clear HC16
              by_cases c17 : t203 = t211
              · rw [if_pos c17] at H
                have c17b0 : (t203 == t211) = true := beq_iff_eq.mpr c17
                have c17b1 : (t203 != t211) = false := bne_eq_false_iff_eq.mpr c17
                clear c17
                (first | rw [c17b0] | (simp only [i64_w, i32_w]; rw [c17b0]) | skip)
                by_cases c18 : t204 = t212
                · rw [if_pos c18] at H
                  have c18b0 : (t204 == t212) = true := beq_iff_eq.mpr c18
                  have c18b1 : (t204 != t212) = false := bne_eq_false_iff_eq.mpr c18
                  clear c18
                  have H' := Aside0.mk H
                  clear H
                  go_wp2
                  go_meet
                  case rel => exact ⟨_, ((t205 != t213)), (by first | rfl | (simp; done) | (simp [*]; done)), H', ⟨by have := HJ7.out; first | omega | exact Nat.le_refl _⟩, ⟨by repeat (first | (with_reducible first | exact HB.out | apply below_alloc | apply pw_below_drewN | apply below_drew1) | exact HB.out)⟩⟩
                · rw [if_neg c18] at H
                  have c18b0 : (t204 == t212) = false := beq_eq_false_iff_ne.mpr c18
                  have c18b1 : (t204 != t212) = true := bne_iff_ne.mpr c18
                  have H' := Aside0.mk H
                  clear H
                  go_wp2
                  go_meet
                  case rel => exact ⟨_, (true), (by first | rfl | (simp; done) | (simp [*]; done)), H', ⟨by have := HJ7.out; first | omega | exact Nat.le_refl _⟩, ⟨by repeat (first | (with_reducible first | exact HB.out | apply below_alloc | apply pw_below_drewN | apply below_drew1) | exact HB.out)⟩⟩
              · rw [if_neg c17] at H
                have c17b0 : (t203 == t211) = false := beq_eq_false_iff_ne.mpr c17
                have c17b1 : (t203 != t211) = true := bne_iff_ne.mpr c17
                (first | rw [c17b0] | (simp only [i64_w, i32_w]; rw [c17b0]) | skip)
                have H' := Aside0.mk H
                clear H
                go_wp2
                go_meet
                case rel => exact ⟨_, (true), (by first | rfl | (simp; done) | (simp [*]; done)), H', ⟨by have := HJ7.out; first | omega | exact Nat.le_refl _⟩, ⟨by repeat (first | (with_reducible first | exact HB.out | apply below_alloc | apply pw_below_drewN | apply below_drew1) | exact HB.out)⟩⟩
            case rest =>
              clear HC16
              try clear c1
              try clear p2
              try clear c3
              try clear c4
              try clear c10
              try clear c11
              try clear c11b0
              try clear c11b1
              try clear c12
              try clear c13
              try clear c14
              try clear c15
              try clear c17
              try clear c17b0
              try clear c17b1
              try clear c18
              try clear c18b0
              try clear c18b1
              try clear p2
              obtain ⟨kq, x76_15, rfl, HA, HJ15, HB⟩ := hcut
              cases kq with
              | zero => exact absurd HA.out (by simp [supercargolaw02_DayMonths.j2])
              | succ kj15 =>
                have H := HA.out
                clear HA
                simp only [supercargolaw02_DayMonths.j2] at H
                by_cases c19 : x76_15 = true
                · subst c19
                  have H1 : (some false) = some r := by rw [if_pos rfl] at H; exact H
                  clear H
                  have H := H1
                  clear H1
                  obtain rfl := Option.some.inj H
                  go_wp2
                  go_ret
                  exact ⟨by first | rfl | (simp [errW_none, errW_some] <;> rfl) | (simp [*, errW_none, errW_some] <;> rfl), by repeat (first | (with_reducible first | exact HB.out | apply below_alloc | apply pw_below_drewN | apply below_drew1) | exact HB.out)⟩
                · replace c19 := Bool.eq_false_iff.mpr c19
                  subst c19
                  have H1 : (if a1 < (-40000) then (supercargolaw02_DayMonths.j3 kj15 a0 a1 t206 true) else (if a1 ≥ 40000 then (supercargolaw02_DayMonths.j3 kj15 a0 a1 t206 true) else (supercargolaw02_DayMonths.j3 kj15 a0 a1 t206 (!t207)))) = some r := by rw [if_neg (show ¬ (false = true) by decide)] at H; exact H
                  clear H
                  have H := H1
                  clear H1
                  have HC20 := Aside0.mk H
                  clear H
                  go_upto_region 13 with (fail)
                  go_cut [86] (fun v86 wc => ∃ (kq : Nat) (x86_19 : Bool), v86 = .bool x86_19 ∧ Aside0 (supercargolaw02_DayMonths.j3 kq a0 a1 t206 x86_19 = some r) ∧ Aside0 (kq ≤ kj15) ∧ Aside0 (Below w.heap.size w wc))
                  case first =>
                    have H := HC20.out
                    clear HC20
                    by_cases c21 : a1 < (-40000)
                    · rw [if_pos c21] at H
                      have c21b0 : decide (a1 < (-40000)) = true := decide_eq_true c21
                      clear c21
                      (first | rw [c21b0] | (simp only [i64_w, i32_w]; rw [c21b0]) | skip)
                      have H' := Aside0.mk H
                      clear H
                      go_wp2
                      go_meet
                      case rel => exact ⟨_, (true), (by first | rfl | (simp; done) | (simp [*]; done)), H', ⟨by have := HJ7.out; have := HJ15.out; first | omega | exact Nat.le_refl _⟩, ⟨by repeat (first | (with_reducible first | exact HB.out | apply below_alloc | apply pw_below_drewN | apply below_drew1) | exact HB.out)⟩⟩
                    · rw [if_neg c21] at H
                      have c21b0 : decide (a1 < (-40000)) = false := decide_eq_false c21
                      clear c21
                      (first | rw [c21b0] | (simp only [i64_w, i32_w]; rw [c21b0]) | skip)
                      by_cases c22 : a1 ≥ 40000
                      · rw [if_pos c22] at H
                        have c22b0 : decide (40000 ≤ a1) = true := decide_eq_true c22
                        clear c22
                        have H' := Aside0.mk H
                        clear H
                        go_wp2
                        go_meet
                        case rel => exact ⟨_, (true), (by first | rfl | (simp; done) | (simp [*]; done)), H', ⟨by have := HJ7.out; have := HJ15.out; first | omega | exact Nat.le_refl _⟩, ⟨by repeat (first | (with_reducible first | exact HB.out | apply below_alloc | apply pw_below_drewN | apply below_drew1) | exact HB.out)⟩⟩
                      · rw [if_neg c22] at H
                        have c22b0 : decide (40000 ≤ a1) = false := decide_eq_false c22
                        clear c22
                        have H' := Aside0.mk H
                        clear H
                        go_wp2
                        go_meet
                        case rel => exact ⟨_, (!t207), (by first | rfl | (simp; done) | (simp [*]; done)), H', ⟨by have := HJ7.out; have := HJ15.out; first | omega | exact Nat.le_refl _⟩, ⟨by repeat (first | (with_reducible first | exact HB.out | apply below_alloc | apply pw_below_drewN | apply below_drew1) | exact HB.out)⟩⟩
                  case rest =>
                    clear HC20
                    try clear c1
                    try clear c2
                    try clear p2
                    try clear c3
                    try clear c4
                    try clear c10
                    try clear c11
                    try clear c11b0
                    try clear c11b1
                    try clear c12
                    try clear c13
                    try clear c14
                    try clear c15
                    try clear c17
                    try clear c17b0
                    try clear c17b1
                    try clear c18
                    try clear c18b0
                    try clear c18b1
                    try clear c19
                    try clear c21
                    try clear c21b0
                    try clear c22
                    try clear c22b0
                    try clear p2
                    obtain ⟨kq, x86_19, rfl, HA, HJ19, HB⟩ := hcut
                    cases kq with
                    | zero => exact absurd HA.out (by simp [supercargolaw02_DayMonths.j3])
                    | succ kj19 =>
                      have H := HA.out
                      clear HA
                      simp only [supercargolaw02_DayMonths.j3] at H
                      by_cases c23 : x86_19 = true
                      · subst c23
                        have H1 : (some true) = some r := by rw [if_pos rfl] at H; exact H
                        clear H
                        have H := H1
                        clear H1
                        obtain rfl := Option.some.inj H
                        go_wp2
                        go_ret
                        exact ⟨by first | rfl | (simp [errW_none, errW_some] <;> rfl) | (simp [*, errW_none, errW_some] <;> rfl), by repeat (first | (with_reducible first | exact HB.out | apply below_alloc | apply pw_below_drewN | apply below_drew1) | exact HB.out)⟩
                      · replace c23 := Bool.eq_false_iff.mpr c23
                        subst c23
                        have H1 : ((day_Tenor.f kj19 a0 (wrap64 (a1 + 1))).bind fun bt214 => (if bt214.2 = true then (if bt214.1 > t206 then (supercargolaw02_DayMonths.j4 kj19 (decide (bt214.1 ≤ (wrap64 ((wrap64 (t206 + 31)) + 3))))) else (supercargolaw02_DayMonths.j4 kj19 false)) else (supercargolaw02_DayMonths.j4 kj19 true))) = some r := by rw [if_neg (show ¬ (false = true) by decide)] at H; exact H
                        clear H
                        have H := H1
                        clear H1
                        replace H := Option.bind_eq_some_iff.mp H
                        obtain ⟨⟨t214, t215⟩, A240, H⟩ := H
                        replace H : (if t215 = true then (if t214 > t206 then (supercargolaw02_DayMonths.j4 kj19 (decide (t214 ≤ (wrap64 ((wrap64 (t206 + 31)) + 3))))) else (supercargolaw02_DayMonths.j4 kj19 false)) else (supercargolaw02_DayMonths.j4 kj19 true)) = some r := H
                        have A24 := Aside0.mk A240
                        clear A240
                        have HC25 := Aside0.mk H
                        clear H
                        go_upto_region 16 with (first | ((with_reducible refine gate_callee (f := 12) rfl ?_); refine goesL_ (some 91) rfl rfl Tryd.func12 (by kernel_rfl) rfl #[.int .i64 a0, .int .i64 (wrap64 (a1 + 1))] rfl (by (try simp only [List.map_toArray, List.map_cons, List.map_nil]); first | done | rfl | (simp only [List.length_drop, List.length_take]; rfl)) ?_; (with_reducible refine (day_Tenor.calls kj19 a0 (wrap64 (a1 + 1)) t214 t215 _ ?side1 A24.out).mono ?_); (case side1 => repeat (first | exact HT.out | exact Tabs_below HT.out (by repeat (first | (with_reducible first | exact HB.out | apply below_alloc | apply pw_below_drewN | apply below_drew1) | exact HB.out)) | (with_reducible refine Tabs_drewN ?_ _) | (with_reducible refine Tabs_drew ?_))); rintro e w26 ⟨rfl, hb⟩; refine ⟨_, rfl, ?_⟩; have n0_ := Aside0.mk (below_step (by repeat (first | (with_reducible first | exact HB.out | apply below_alloc | apply pw_below_drewN | apply below_drew1) | exact HB.out)) hb); clear HB; have HB := n0_; clear n0_; (try clear hb); (try clear hb2); (try clear hk); (try clear hi)))
                        (try simp only [Act.put, List.setIfInBounds_toArray, List.set_cons_zero, List.set_cons_succ])
                        go_cut [4] (fun v4 wc => ∃ (kq : Nat) (x4_24 : Bool), v4 = .bool x4_24 ∧ Aside0 (supercargolaw02_DayMonths.j4 kq x4_24 = some r) ∧ Aside0 (kq ≤ kj19) ∧ Aside0 (Below w.heap.size w wc))
                        case first =>
                          have H := HC25.out
                          clear HC25
                          by_cases c27 : t215 = true
                          · subst c27
                            have H1 : (if t214 > t206 then (supercargolaw02_DayMonths.j4 kj19 (decide (t214 ≤ (wrap64 ((wrap64 (t206 + 31)) + 3))))) else (supercargolaw02_DayMonths.j4 kj19 false)) = some r := by rw [if_pos rfl] at H; exact H
                            clear H
                            have H := H1
                            clear H1
                            by_cases c28 : t214 > t206
                            · rw [if_pos c28] at H
                              have c28b0 : decide (t206 < t214) = true := decide_eq_true c28
                              clear c28
                              (first | rw [c28b0] | (simp only [i64_w, i32_w]; rw [c28b0]) | skip)
                              have H' := Aside0.mk H
                              clear H
                              go_wp2
                              go_meet
                              case rel => exact ⟨_, (decide (t214 ≤ (wrap64 ((wrap64 (t206 + 31)) + 3)))), (by first | rfl | (simp; done) | (simp [*]; done)), H', ⟨by have := HJ7.out; have := HJ15.out; have := HJ19.out; first | omega | exact Nat.le_refl _⟩, ⟨by repeat (first | (with_reducible first | exact HB.out | apply below_alloc | apply pw_below_drewN | apply below_drew1) | exact HB.out)⟩⟩
                            · rw [if_neg c28] at H
                              have c28b0 : decide (t206 < t214) = false := decide_eq_false c28
                              clear c28
                              (first | rw [c28b0] | (simp only [i64_w, i32_w]; rw [c28b0]) | skip)
                              have H' := Aside0.mk H
                              clear H
                              go_wp2
                              go_meet
                              case rel => exact ⟨_, (false), (by first | rfl | (simp; done) | (simp [*]; done)), H', ⟨by have := HJ7.out; have := HJ15.out; have := HJ19.out; first | omega | exact Nat.le_refl _⟩, ⟨by repeat (first | (with_reducible first | exact HB.out | apply below_alloc | apply pw_below_drewN | apply below_drew1) | exact HB.out)⟩⟩
                          · replace c27 := Bool.eq_false_iff.mpr c27
                            subst c27
                            have H1 : (supercargolaw02_DayMonths.j4 kj19 true) = some r := by rw [if_neg (show ¬ (false = true) by decide)] at H; exact H
                            clear H
                            have H := H1
                            clear H1
                            have H' := Aside0.mk H
                            clear H
                            go_wp2
                            go_meet
                            case rel => exact ⟨_, (true), (by first | rfl | (simp; done) | (simp [*]; done)), H', ⟨by have := HJ7.out; have := HJ15.out; have := HJ19.out; first | omega | exact Nat.le_refl _⟩, ⟨by repeat (first | (with_reducible first | exact HB.out | apply below_alloc | apply pw_below_drewN | apply below_drew1) | exact HB.out)⟩⟩
                        case rest =>
                          clear HC25
                          try clear c1
                          try clear c2
                          try clear p2
                          try clear c3
                          try clear c4
                          try clear p6
                          try clear c10
                          try clear c11
                          try clear c11b0
                          try clear c11b1
                          try clear c12
                          try clear c13
                          try clear c14
                          try clear c15
                          try clear c17
                          try clear c17b0
                          try clear c17b1
                          try clear c18
                          try clear c18b0
                          try clear c18b1
                          try clear c19
                          try clear c21
                          try clear c21b0
                          try clear c22
                          try clear c22b0
                          try clear c23
                          try clear c27
                          try clear c28
                          try clear c28b0
                          try clear p2
                          obtain ⟨kq, x4_24, rfl, HA, HJ24, HB⟩ := hcut
                          cases kq with
                          | zero => exact absurd HA.out (by simp [supercargolaw02_DayMonths.j4])
                          | succ kj24 =>
                            have H := HA.out
                            clear HA
                            simp only [supercargolaw02_DayMonths.j4] at H
                            obtain rfl := Option.some.inj H
                            go_wp2
                            go_ret
                            exact ⟨by first | rfl | (simp [errW_none, errW_some] <;> rfl) | (simp [*, errW_none, errW_some] <;> rfl), by repeat (first | (with_reducible first | exact HB.out | apply below_alloc | apply pw_below_drewN | apply below_drew1) | exact HB.out)⟩
          · replace c14 := Bool.eq_false_iff.mpr c14
            subst c14
            have H1 : (if t203 = 0 then (if t204 = 0 then (supercargolaw02_DayMonths.j1 kj7 (t205 == 0)) else (supercargolaw02_DayMonths.j1 kj7 false)) else (supercargolaw02_DayMonths.j1 kj7 false)) = some r := by rw [if_neg (show ¬ (false = true) by decide)] at H; exact H
            clear H
            have H := H1
            clear H1
            have HC29 := Aside0.mk H
            clear H
            go_upto_region 9 with (first | ((with_reducible refine gate_callee (f := 14) rfl ?_); refine goesL_ (some 46) rfl rfl Tryd.func14 (by kernel_rfl) rfl #[.int .i64 a0] rfl (by (try simp only [List.map_toArray, List.map_cons, List.map_nil]); first | done | rfl | (simp only [List.length_drop, List.length_take]; rfl)) ?_; (with_reducible refine (supercargoref02_Is.calls a0 false _ A13.out).mono ?_); rintro e w' ⟨rfl, ⟨nd, rfl⟩⟩; refine ⟨_, rfl, ?_⟩))
            (try simp only [Act.put, List.setIfInBounds_toArray, List.set_cons_zero, List.set_cons_succ])
            go_cut [4] (fun v4 wc => ∃ (kq : Nat) (x4_28 : Bool), v4 = .bool x4_28 ∧ Aside0 (supercargolaw02_DayMonths.j1 kq x4_28 = some r) ∧ Aside0 (kq ≤ kj7) ∧ Aside0 (Below w.heap.size w wc))
            case first =>
              have H := HC29.out
              clear HC29
              by_cases c30 : t203 = 0
              · rw [if_pos c30] at H
                have c30b0 : (t203 == 0) = true := beq_iff_eq.mpr c30
                have c30b1 : (t203 != 0) = false := bne_eq_false_iff_eq.mpr c30
                clear c30
                (first | rw [c30b0] | (simp only [i64_w, i32_w]; rw [c30b0]) | skip)
                by_cases c31 : t204 = 0
                · rw [if_pos c31] at H
                  have c31b0 : (t204 == 0) = true := beq_iff_eq.mpr c31
                  have c31b1 : (t204 != 0) = false := bne_eq_false_iff_eq.mpr c31
                  clear c31
                  have H' := Aside0.mk H
                  clear H
                  go_wp2
                  go_meet
                  case rel => exact ⟨_, ((t205 == 0)), (by first | rfl | (simp; done) | (simp [*]; done)), H', ⟨by have := HJ7.out; first | omega | exact Nat.le_refl _⟩, ⟨by repeat (first | (with_reducible first | exact HB.out | apply below_alloc | apply pw_below_drewN | apply below_drew1) | exact HB.out)⟩⟩
                · rw [if_neg c31] at H
                  have c31b0 : (t204 == 0) = false := beq_eq_false_iff_ne.mpr c31
                  have c31b1 : (t204 != 0) = true := bne_iff_ne.mpr c31
                  have H' := Aside0.mk H
                  clear H
                  go_wp2
                  go_meet
                  case rel => exact ⟨_, (false), (by first | rfl | (simp; done) | (simp [*]; done)), H', ⟨by have := HJ7.out; first | omega | exact Nat.le_refl _⟩, ⟨by repeat (first | (with_reducible first | exact HB.out | apply below_alloc | apply pw_below_drewN | apply below_drew1) | exact HB.out)⟩⟩
              · rw [if_neg c30] at H
                have c30b0 : (t203 == 0) = false := beq_eq_false_iff_ne.mpr c30
                have c30b1 : (t203 != 0) = true := bne_iff_ne.mpr c30
                (first | rw [c30b0] | (simp only [i64_w, i32_w]; rw [c30b0]) | skip)
                have H' := Aside0.mk H
                clear H
                go_wp2
                go_meet
                case rel => exact ⟨_, (false), (by first | rfl | (simp; done) | (simp [*]; done)), H', ⟨by have := HJ7.out; first | omega | exact Nat.le_refl _⟩, ⟨by repeat (first | (with_reducible first | exact HB.out | apply below_alloc | apply pw_below_drewN | apply below_drew1) | exact HB.out)⟩⟩
            case rest =>
              clear HC29
              try clear c1
              try clear c2
              try clear p2
              try clear c3
              try clear c4
              try clear p6
              try clear c10
              try clear c11
              try clear c11b0
              try clear c11b1
              try clear c12
              try clear c13
              try clear c14
              try clear c15
              try clear c17
              try clear c17b0
              try clear c17b1
              try clear c18
              try clear c18b0
              try clear c18b1
              try clear c19
              try clear c21
              try clear c21b0
              try clear c22
              try clear c22b0
              try clear c23
              try clear c27
              try clear c28
              try clear c28b0
              try clear c30
              try clear c30b0
              try clear c30b1
              try clear c31
              try clear c31b0
              try clear c31b1
              try clear p2
              try clear p6
              obtain ⟨kq, x4_28, rfl, HA, HJ28, HB⟩ := hcut
              cases kq with
              | zero => exact absurd HA.out (by simp [supercargolaw02_DayMonths.j1])
              | succ kj28 =>
                have H := HA.out
                clear HA
                simp only [supercargolaw02_DayMonths.j1] at H
                obtain rfl := Option.some.inj H
                go_wp2
                go_ret
                exact ⟨by first | rfl | (simp [errW_none, errW_some] <;> rfl) | (simp [*, errW_none, errW_some] <;> rfl), by repeat (first | (with_reducible first | exact HB.out | apply below_alloc | apply pw_below_drewN | apply below_drew1) | exact HB.out)⟩
  · replace c4 := Bool.eq_false_iff.mpr c4
    subst c4
    have H1 : (some false) = some r := by rw [if_neg (show ¬ (false = true) by decide)] at H; exact H
    clear H
    have H := H1
    clear H1
    obtain rfl := Option.some.inj H
    go_enter Tryd.func3, Tryd.ntmps3
    go_wp2_with (first | ((with_reducible refine gate_callee (f := 10) rfl ?_); refine goesL_ (some 17) rfl rfl Tryd.func10 (by kernel_rfl) rfl #[] rfl (by (try simp only [List.map_toArray, List.map_cons, List.map_nil]); first | done | rfl | (simp only [List.length_drop, List.length_take]; rfl)) ?_; (with_reducible refine (supercargolaw02_awake.calls k  false _ ?side1 A3.out).mono ?_); (case side1 => repeat (first | exact HT.out | exact Tabs_below HT.out (by repeat (first | (with_reducible first | exact HB.out | apply below_alloc | apply pw_below_drewN | apply below_drew1) | exact HB.out)) | (with_reducible refine Tabs_drewN ?_ _) | (with_reducible refine Tabs_drew ?_))); rintro e w32 ⟨rfl, hb⟩; refine ⟨_, rfl, ?_⟩; have n0_ := Aside0.mk (below_step (by repeat (first | (with_reducible first | exact HB.out | apply below_alloc | apply pw_below_drewN | apply below_drew1) | exact HB.out)) hb); clear HB; have HB := n0_; clear n0_; (try clear hb); (try clear hb2); (try clear hk); (try clear hi)))
    go_ret
    exact ⟨by first | rfl | (simp [errW_none, errW_some] <;> rfl) | (simp [*, errW_none, errW_some] <;> rfl), by repeat (first | (with_reducible first | exact HB.out | apply below_alloc | apply pw_below_drewN | apply below_drew1) | exact HB.out)⟩

/-! ### supercargolaw02_heavy: function 16 -/
def supercargolaw02_heavy.f (l0_0 : List Int) (l0_1 : List Int) : Option (Bool) := if (l0_0.length : Int) > 20 then (some true) else (some (decide ((l0_1.length : Int) > 60)))
set_option maxHeartbeats 8000000 in
set_option maxRecDepth 100000 in
theorem supercargolaw02_heavy.calls (A0_0 : Option Addr) (c0_0 : Nat) (l0_0 : List Int) (A0_1 : Option Addr) (c0_1 : Nat) (l0_1 : List Int) (r : Bool) (w : World) (hr0_0 : Kd.C (Kd.int .i64) w A0_0 l0_0.length l0_0) (hc0_0 : l0_0.length ≤ c0_0) (hr0_1 : Kd.C (Kd.int .i64) w A0_1 l0_1.length l0_1) (hc0_1 : l0_1.length ≤ c0_1) (h : supercargolaw02_heavy.f l0_0 l0_1 = some r) :
    Calls Tryd.prog 16 #[.agg #[.slice A0_0 l0_0.length c0_0, .slice A0_1 l0_1.length c0_1]] w fun e w' => e = .returned (.bool r) ∧ Below w.heap.size w w' := by
  have hu31 := Tryd.underlying31
  have HR0_0 := Aside0.mk hr0_0
  have HC0_0 := Aside0.mk hc0_0
  clear hr0_0 hc0_0
  have HR0_1 := Aside0.mk hr0_1
  have HC0_1 := Aside0.mk hc0_1
  clear hr0_1 hc0_1
  have HB := Aside0.mk (Below.refl w.heap.size w)
  have H : (if (l0_0.length : Int) > 20 then (some true) else (some (decide ((l0_1.length : Int) > 60)))) = some r := h
  clear h
  by_cases c2 : (l0_0.length : Int) > 20
  · rw [if_pos c2] at H
    have c2b0 : decide (20 < (l0_0.length : Int)) = true := decide_eq_true c2
    have c2b1 : decide (20 < l0_0.length) = true := decide_eq_true (by omega)
    clear c2
    obtain rfl := Option.some.inj H
    go_enter Tryd.func16, Tryd.ntmps16
    go_wp2_with (first | ((with_reducible refine gate_dst (N := 1) rfl ?_); (try (refine gate_guard (by rfl) ?_; dsimp only)); refine box_event ?hg (N := 1) ?hd (cs := #[.slice A0_0 l0_0.length c0_0, .slice A0_1 l0_1.length c0_1]) (t := 31) ?hr ?_; (case hd => rfl); (case hg => rfl); (case hr => first | (go_simp; done) | (go_simp; rfl)); intro gb216 hg w3 hbox hb; have n0_ := Aside0.mk (below_step (by repeat (first | (with_reducible first | exact HB.out | apply below_alloc | apply pw_below_drewN | apply below_drew1) | exact HB.out)) hb); have n1_ := Aside0.mk (hbox); have n2_ := Aside0.mk ((by rw [hg]; exact (below_size (by repeat (first | (with_reducible first | exact HB.out | apply below_alloc | apply pw_below_drewN | apply below_drew1) | exact HB.out))) : w.heap.size ≤ gb216)); have n3_ := Aside0.mk ((by rw [hg]; exact (below_size (by repeat (first | (with_reducible first | exact HB.out | apply below_alloc | apply pw_below_drewN | apply below_drew1) | exact HB.out))) : w.heap.size ≤ gb216)); clear HB; have HB := n0_; have BK216 := n1_; have GW216 := n2_; have GE216 := n3_; clear n0_ n1_ n2_ n3_; clear hb hbox hg; have hcz4_0 : w3.cell? ⟨gb216, 0, none⟩ = some (.slice A0_0 l0_0.length c0_0) := (blk_cell BK216.out 0).trans rfl; have hcz4_1 : w3.cell? ⟨gb216, 1, none⟩ = some (.slice A0_1 l0_1.length c0_1) := (blk_cell BK216.out 1).trans rfl; have hfz4_0 := blk_frozen BK216.out 0; have hfz4_1 := blk_frozen BK216.out 1))
    go_ret
    exact ⟨by first | rfl | (simp [errW_none, errW_some] <;> rfl) | (simp [*, errW_none, errW_some] <;> rfl), by repeat (first | (with_reducible first | exact HB.out | apply below_alloc | apply pw_below_drewN | apply below_drew1 | refine below_set ?_ GE216.out) | exact HB.out)⟩
  · rw [if_neg c2] at H
    have c2b0 : decide (20 < (l0_0.length : Int)) = false := decide_eq_false c2
    have c2b1 : decide (20 < l0_0.length) = false := decide_eq_false (by omega)
    clear c2
    obtain rfl := Option.some.inj H
    go_enter Tryd.func16, Tryd.ntmps16
    go_wp2_with (first | ((with_reducible refine gate_dst (N := 1) rfl ?_); (try (refine gate_guard (by rfl) ?_; dsimp only)); refine box_event ?hg (N := 1) ?hd (cs := #[.slice A0_0 l0_0.length c0_0, .slice A0_1 l0_1.length c0_1]) (t := 31) ?hr ?_; (case hd => rfl); (case hg => rfl); (case hr => first | (go_simp; done) | (go_simp; rfl)); intro gb216 hg w5 hbox hb; have n0_ := Aside0.mk (below_step (by repeat (first | (with_reducible first | exact HB.out | apply below_alloc | apply pw_below_drewN | apply below_drew1) | exact HB.out)) hb); have n1_ := Aside0.mk (hbox); have n2_ := Aside0.mk ((by rw [hg]; exact (below_size (by repeat (first | (with_reducible first | exact HB.out | apply below_alloc | apply pw_below_drewN | apply below_drew1) | exact HB.out))) : w.heap.size ≤ gb216)); have n3_ := Aside0.mk ((by rw [hg]; exact (below_size (by repeat (first | (with_reducible first | exact HB.out | apply below_alloc | apply pw_below_drewN | apply below_drew1) | exact HB.out))) : w.heap.size ≤ gb216)); clear HB; have HB := n0_; have BK216 := n1_; have GW216 := n2_; have GE216 := n3_; clear n0_ n1_ n2_ n3_; clear hb hbox hg; have hcz6_0 : w5.cell? ⟨gb216, 0, none⟩ = some (.slice A0_0 l0_0.length c0_0) := (blk_cell BK216.out 0).trans rfl; have hcz6_1 : w5.cell? ⟨gb216, 1, none⟩ = some (.slice A0_1 l0_1.length c0_1) := (blk_cell BK216.out 1).trans rfl; have hfz6_0 := blk_frozen BK216.out 0; have hfz6_1 := blk_frozen BK216.out 1))
    go_ret
    exact ⟨by first | rfl | (simp [errW_none, errW_some] <;> rfl) | (simp [*, errW_none, errW_some] <;> rfl), by repeat (first | (with_reducible first | exact HB.out | apply below_alloc | apply pw_below_drewN | apply below_drew1 | refine below_set ?_ GE216.out) | exact HB.out)⟩

/-! ### day_Last: function 18 -/
def day_Last.f (k : Nat) (l0_0 : List Int) (l0_1 : List Int) (a1 : Int) : Option (Int × Bool) := (day_along.f k l0_0 l0_1 a1 1 (-1)).bind fun bt218 => (some (bt218.1, bt218.2))
theorem day_Last.mono : ∀ a0 a1 a2 k, LeO (day_Last.f k a0 a1 a2) (day_Last.f (k + 1) a0 a1 a2) := by
  intro a0 a1 a2 k
  unfold day_Last.f
  repeat' first
      | (with_reducible exact day_along.mono _ _ _ _ _ _)
      | (with_reducible exact LeO.refl _)
      | (with_reducible exact LeO.none _)
      | (with_reducible refine LeO.ite ?_ ?_)
      | (with_reducible refine LeO.bind ?_ (fun _ => ?_))
      | exact day_along.mono _ _ _ _ _ _
      | exact LeO.none _
      | refine LeO.ite ?_ ?_
      | refine LeO.bind ?_ (fun _ => ?_)
set_option maxHeartbeats 8000000 in
set_option maxRecDepth 100000 in
theorem day_Last.calls (k : Nat) (A0_0 : Option Addr) (c0_0 : Nat) (l0_0 : List Int) (A0_1 : Option Addr) (c0_1 : Nat) (l0_1 : List Int) (a1 : Int) (r1 : Int) (r2 : Bool) (w : World) (hr0_0 : Kd.C (Kd.int .i64) w A0_0 l0_0.length l0_0) (hc0_0 : l0_0.length ≤ c0_0) (hr0_1 : Kd.C (Kd.int .i64) w A0_1 l0_1.length l0_1) (hc0_1 : l0_1.length ≤ c0_1) (h : day_Last.f k l0_0 l0_1 a1 = some (r1, r2)) :
    Calls Tryd.prog 18 #[.agg #[.slice A0_0 l0_0.length c0_0, .slice A0_1 l0_1.length c0_1], .int .i64 a1] w fun e w' => e = .returned (.tuple #[.int .i64 r1, .bool r2]) ∧ Below w.heap.size w w' := by
  have hu31 := Tryd.underlying31
  have HR0_0 := Aside0.mk hr0_0
  have HC0_0 := Aside0.mk hc0_0
  clear hr0_0 hc0_0
  have HR0_1 := Aside0.mk hr0_1
  have HC0_1 := Aside0.mk hc0_1
  clear hr0_1 hc0_1
  have HB := Aside0.mk (Below.refl w.heap.size w)
  have H : ((day_along.f k l0_0 l0_1 a1 1 (-1)).bind fun bt218 => (some (bt218.1, bt218.2))) = some (r1, r2) := h
  clear h
  replace H := Option.bind_eq_some_iff.mp H
  obtain ⟨⟨t218, t219⟩, A30, H⟩ := H
  replace H : (some (t218, t219)) = some (r1, r2) := H
  have A3 := Aside0.mk A30
  clear A30
  simp only [Option.some.injEq, Prod.mk.injEq] at H
  obtain ⟨rfl, rfl⟩ := H
  go_enter Tryd.func18, Tryd.ntmps18
  go_wp2_with (first | ((with_reducible refine gate_dst (N := 2) rfl ?_); refine box_event ?hg (N := 2) ?hd (cs := #[.slice A0_0 l0_0.length c0_0, .slice A0_1 l0_1.length c0_1]) (t := 31) ?hr ?_; (case hd => rfl); (case hg => rfl); (case hr => first | (go_simp; done) | (go_simp; rfl)); intro gb217 hg w4 hbox hb; have n0_ := Aside0.mk (below_step (by repeat (first | (with_reducible first | exact HB.out | apply below_alloc | apply pw_below_drewN | apply below_drew1) | exact HB.out)) hb); have n1_ := Aside0.mk (hbox); have n2_ := Aside0.mk ((by rw [hg]; exact (below_size (by repeat (first | (with_reducible first | exact HB.out | apply below_alloc | apply pw_below_drewN | apply below_drew1) | exact HB.out))) : w.heap.size ≤ gb217)); have n3_ := Aside0.mk ((by rw [hg]; exact (below_size (by repeat (first | (with_reducible first | exact HB.out | apply below_alloc | apply pw_below_drewN | apply below_drew1) | exact HB.out))) : w.heap.size ≤ gb217)); clear HB; have HB := n0_; have BK217 := n1_; have GW217 := n2_; have GE217 := n3_; clear n0_ n1_ n2_ n3_; clear hb hbox hg; have hcz5_0 : w4.cell? ⟨gb217, 0, none⟩ = some (.slice A0_0 l0_0.length c0_0) := (blk_cell BK217.out 0).trans rfl; have hcz5_1 : w4.cell? ⟨gb217, 1, none⟩ = some (.slice A0_1 l0_1.length c0_1) := (blk_cell BK217.out 1).trans rfl; have hfz5_0 := blk_frozen BK217.out 0; have hfz5_1 := blk_frozen BK217.out 1) | ((with_reducible refine gate_callee (f := 40) rfl ?_); refine goesL_ (some 8) rfl rfl Tryd.func40 (by kernel_rfl) rfl #[.agg #[.slice A0_0 l0_0.length c0_0, .slice A0_1 l0_1.length c0_1], .int .i64 a1, .int .i64 1, .int .i64 (-1)] rfl (by (try simp only [List.map_toArray, List.map_cons, List.map_nil]); first | done | rfl | (simp only [List.length_drop, List.length_take]; rfl)) ?_; (with_reducible refine (day_along.calls k _ _ l0_0 _ _ l0_1 a1 1 (-1) t218 t219 _ ?side1 ?side2 ?side3 ?side4 A3.out).mono ?_); (case side1 => repeat (first | exact (Kd.C_below HR0_0.out HB.out) | (with_reducible refine Kd.C_alloc ?_ _) | (with_reducible refine Kd.C_drewN ?_ _) | (with_reducible refine Kd.C_drew ?_))); (case side2 => exact HC0_0.out); (case side3 => repeat (first | exact (Kd.C_below HR0_1.out HB.out) | (with_reducible refine Kd.C_alloc ?_ _) | (with_reducible refine Kd.C_drewN ?_ _) | (with_reducible refine Kd.C_drew ?_))); (case side4 => exact HC0_1.out); rintro e w6 ⟨rfl, hb⟩; refine ⟨_, rfl, ?_⟩; have n0_ := Aside0.mk (blk_below (g := gb217) (o := .cells #[.slice A0_0 l0_0.length c0_0, .slice A0_1 l0_1.length c0_1] 31 (0, 0)) (by (with_reducible repeat (first | refine blk_drewN ?_ _ | refine blk_drew ?_ | refine blk_alloc ?_ _)); exact BK217.out) hb); have n1_ := Aside0.mk (below_step (by repeat (first | (with_reducible first | exact HB.out | apply below_alloc | apply pw_below_drewN | apply below_drew1 | refine below_set ?_ GE217.out) | exact HB.out)) hb); clear BK217; clear HB; have BK217 := n0_; have HB := n1_; clear n0_ n1_; (try clear hb); (try clear hb2); (try clear hk); (try clear hi)))
  go_ret2
  exact ⟨by first | rfl | (simp [errW_none, errW_some] <;> rfl) | (simp [*, errW_none, errW_some] <;> rfl), by repeat (first | (with_reducible first | exact HB.out | apply below_alloc | apply pw_below_drewN | apply below_drew1 | refine below_set ?_ GE217.out) | exact HB.out)⟩

end Go.Proofs.YtpmclpblnhjjeaaDoor.P
