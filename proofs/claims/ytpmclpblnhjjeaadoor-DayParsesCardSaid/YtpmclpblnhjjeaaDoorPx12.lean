-- Written by the session's own program xprint.py, which runs the kit's print over functions given by hand.
import Derived.Test.YtpmclpblnhjjeaaDoorPx0
import Derived.Test.YtpmclpblnhjjeaaDoorPx8
import Derived.Test.YtpmclpblnhjjeaaDoorPx9
import Derived.Test.YtpmclpblnhjjeaaDoorPx11
namespace Go.Proofs.YtpmclpblnhjjeaaDoor.P
open Go.RowKit Go.Proofs.YtpmclpblnhjjeaaDoorW.PrintWords Go.Proofs.YtpmclpblnhjjeaaDoorW.PrintLast Go.Proofs.YtpmclpblnhjjeaaDoorW.PrintMore
attribute [local go_sem] max2_int min2_int max_two min_two max_three min_three max_four min_four   -- for this text's walks alone
set_option linter.unusedVariables false
set_option linter.unusedSimpArgs false

/-! ### supercargolaw02_DayParses: function 9 -/
def supercargolaw02_DayParses.j0 : Nat → Bool → Option (Bool)
  | 0, _ => none
  | k + 1, x2 => some x2
def supercargolaw02_DayParses.f (k : Nat) (a0 : ByteArray) : Option (Bool) := (supercargolaw02_awake.f k).bind fun t215 => (if t215 = true then (if (a0.size : Int) > 1000 then (some true) else ((day_Parse.f k a0).bind fun bt216 => ((supercargoref02_Parse.f k a0).bind fun bt218 => (if bt216.1 = bt218.1 then (if bt216.2 = bt218.2 then (if bt216.2 = 0 then ((day_Text.f k bt216.1).bind fun t220 => (supercargolaw02_DayParses.j0 k (t220.toList == a0.toList))) else (supercargolaw02_DayParses.j0 k true)) else (supercargolaw02_DayParses.j0 k false)) else (supercargolaw02_DayParses.j0 k false))))) else (some false))
theorem supercargolaw02_DayParses.mono_l : ∀ k, (∀ y0, LeO (supercargolaw02_DayParses.j0 k y0) (supercargolaw02_DayParses.j0 (k + 1) y0))
  | 0 => fun _ r h => by simp [supercargolaw02_DayParses.j0] at h
  | k + 1 => by
    have ih0 := supercargolaw02_DayParses.mono_l k
    · intro y0
      unfold supercargolaw02_DayParses.j0
      repeat' first
      | (with_reducible exact ih0 _)
      | (with_reducible exact day_Parse.mono _ _)
      | (with_reducible exact day_Text.mono _ _)
      | (with_reducible exact supercargolaw02_awake.mono _)
      | (with_reducible exact supercargoref02_Parse.mono _ _)
      | (with_reducible exact LeO.refl _)
      | (with_reducible exact LeO.none _)
      | (with_reducible refine LeO.ite ?_ ?_)
      | (with_reducible refine LeO.bind ?_ (fun _ => ?_))
      | exact ih0 _
      | exact day_Parse.mono _ _
      | exact day_Text.mono _ _
      | exact supercargolaw02_awake.mono _
      | exact supercargoref02_Parse.mono _ _
      | exact LeO.none _
      | refine LeO.ite ?_ ?_
      | refine LeO.bind ?_ (fun _ => ?_)
theorem supercargolaw02_DayParses.mono : ∀ a0 k, LeO (supercargolaw02_DayParses.f k a0) (supercargolaw02_DayParses.f (k + 1) a0) := by
  intro a0 k
  have ih0 := supercargolaw02_DayParses.mono_l k
  unfold supercargolaw02_DayParses.f
  repeat' first
      | (with_reducible exact ih0 _)
      | (with_reducible exact day_Parse.mono _ _)
      | (with_reducible exact day_Text.mono _ _)
      | (with_reducible exact supercargolaw02_awake.mono _)
      | (with_reducible exact supercargoref02_Parse.mono _ _)
      | (with_reducible exact LeO.refl _)
      | (with_reducible exact LeO.none _)
      | (with_reducible refine LeO.ite ?_ ?_)
      | (with_reducible refine LeO.bind ?_ (fun _ => ?_))
      | exact ih0 _
      | exact day_Parse.mono _ _
      | exact day_Text.mono _ _
      | exact supercargolaw02_awake.mono _
      | exact supercargoref02_Parse.mono _ _
      | exact LeO.none _
      | refine LeO.ite ?_ ?_
      | refine LeO.bind ?_ (fun _ => ?_)
set_option maxHeartbeats 8000000 in
set_option maxRecDepth 100000 in
theorem supercargolaw02_DayParses.calls (k : Nat) (a0 : ByteArray) (r : Bool) (w : World) (hT : Tabs w) (h : supercargolaw02_DayParses.f k a0 = some r) :
    Calls Tryd.prog 9 #[.string a0] w fun e w' => e = .returned (.bool r) ∧ Below w.heap.size w w' := by
  have HT := Aside0.mk hT
  clear hT
  have HB := Aside0.mk (Below.refl w.heap.size w)
  have H : ((supercargolaw02_awake.f k).bind fun t215 => (if t215 = true then (if (a0.size : Int) > 1000 then (some true) else ((day_Parse.f k a0).bind fun bt216 => ((supercargoref02_Parse.f k a0).bind fun bt218 => (if bt216.1 = bt218.1 then (if bt216.2 = bt218.2 then (if bt216.2 = 0 then ((day_Text.f k bt216.1).bind fun t220 => (supercargolaw02_DayParses.j0 k (t220.toList == a0.toList))) else (supercargolaw02_DayParses.j0 k true)) else (supercargolaw02_DayParses.j0 k false)) else (supercargolaw02_DayParses.j0 k false))))) else (some false))) = some r := h
  clear h
  replace H := Option.bind_eq_some_iff.mp H
  obtain ⟨t215, A20, H⟩ := H
  replace H : (if t215 = true then (if (a0.size : Int) > 1000 then (some true) else ((day_Parse.f k a0).bind fun bt216 => ((supercargoref02_Parse.f k a0).bind fun bt218 => (if bt216.1 = bt218.1 then (if bt216.2 = bt218.2 then (if bt216.2 = 0 then ((day_Text.f k bt216.1).bind fun t220 => (supercargolaw02_DayParses.j0 k (t220.toList == a0.toList))) else (supercargolaw02_DayParses.j0 k true)) else (supercargolaw02_DayParses.j0 k false)) else (supercargolaw02_DayParses.j0 k false))))) else (some false)) = some r := H
  have A2 := Aside0.mk A20
  clear A20
  by_cases c3 : t215 = true
  · subst c3
    have H1 : (if (a0.size : Int) > 1000 then (some true) else ((day_Parse.f k a0).bind fun bt216 => ((supercargoref02_Parse.f k a0).bind fun bt218 => (if bt216.1 = bt218.1 then (if bt216.2 = bt218.2 then (if bt216.2 = 0 then ((day_Text.f k bt216.1).bind fun t220 => (supercargolaw02_DayParses.j0 k (t220.toList == a0.toList))) else (supercargolaw02_DayParses.j0 k true)) else (supercargolaw02_DayParses.j0 k false)) else (supercargolaw02_DayParses.j0 k false))))) = some r := by rw [if_pos rfl] at H; exact H
    clear H
    have H := H1
    clear H1
    by_cases c4 : (a0.size : Int) > 1000
    · rw [if_pos c4] at H
      have c4b0 : decide (1000 < (a0.size : Int)) = true := decide_eq_true c4
      have c4b1 : decide (1000 < a0.size) = true := decide_eq_true (by omega)
      clear c4
      obtain rfl := Option.some.inj H
      go_enter Tryd.func9, Tryd.ntmps9
      go_wp2_with (first | ((with_reducible refine gate_callee (f := 10) rfl ?_); refine goesL_ (some 7) rfl rfl Tryd.func10 (by kernel_rfl) rfl #[] rfl (by (try simp only [List.map_toArray, List.map_cons, List.map_nil]); first | done | rfl | (simp only [List.length_drop, List.length_take]; rfl)) ?_; (with_reducible refine (supercargolaw02_awake.calls k  true _ ?side1 A2.out).mono ?_); (case side1 => repeat (first | exact HT.out | exact Tabs_below HT.out (by repeat (first | (with_reducible first | exact HB.out | apply below_alloc | apply pw_below_drewN | apply below_drew1) | exact HB.out)) | (with_reducible refine Tabs_drewN ?_ _) | (with_reducible refine Tabs_drew ?_))); rintro e w5 ⟨rfl, hb⟩; refine ⟨_, rfl, ?_⟩; have n0_ := Aside0.mk (below_step (by repeat (first | (with_reducible first | exact HB.out | apply below_alloc | apply pw_below_drewN | apply below_drew1) | exact HB.out)) hb); clear HB; have HB := n0_; clear n0_; (try clear hb); (try clear hb2); (try clear hk); (try clear hi)))
      go_ret
      exact ⟨by first | rfl | (simp [errW_none, errW_some] <;> rfl) | (simp [*, errW_none, errW_some] <;> rfl), by repeat (first | (with_reducible first | exact HB.out | apply below_alloc | apply pw_below_drewN | apply below_drew1) | exact HB.out)⟩
    · rw [if_neg c4] at H
      have c4b0 : decide (1000 < (a0.size : Int)) = false := decide_eq_false c4
      have c4b1 : decide (1000 < a0.size) = false := decide_eq_false (by omega)
      clear c4
      replace H := Option.bind_eq_some_iff.mp H
      obtain ⟨⟨t216, t217⟩, A60, H⟩ := H
      replace H : ((supercargoref02_Parse.f k a0).bind fun bt218 => (if t216 = bt218.1 then (if t217 = bt218.2 then (if t217 = 0 then ((day_Text.f k t216).bind fun t220 => (supercargolaw02_DayParses.j0 k (t220.toList == a0.toList))) else (supercargolaw02_DayParses.j0 k true)) else (supercargolaw02_DayParses.j0 k false)) else (supercargolaw02_DayParses.j0 k false))) = some r := H
      have A6 := Aside0.mk A60
      clear A60
      replace H := Option.bind_eq_some_iff.mp H
      obtain ⟨⟨t218, t219⟩, A70, H⟩ := H
      replace H : (if t216 = t218 then (if t217 = t219 then (if t217 = 0 then ((day_Text.f k t216).bind fun t220 => (supercargolaw02_DayParses.j0 k (t220.toList == a0.toList))) else (supercargolaw02_DayParses.j0 k true)) else (supercargolaw02_DayParses.j0 k false)) else (supercargolaw02_DayParses.j0 k false)) = some r := H
      have A7 := Aside0.mk A70
      clear A70
      have HC8 := Aside0.mk H
      clear H
      go_enter Tryd.func9, Tryd.ntmps9
      go_upto_region 7 with (first | ((with_reducible refine gate_callee (f := 10) rfl ?_); refine goesL_ (some 7) rfl rfl Tryd.func10 (by kernel_rfl) rfl #[] rfl (by (try simp only [List.map_toArray, List.map_cons, List.map_nil]); first | done | rfl | (simp only [List.length_drop, List.length_take]; rfl)) ?_; (with_reducible refine (supercargolaw02_awake.calls k  true _ ?side1 A2.out).mono ?_); (case side1 => repeat (first | exact HT.out | exact Tabs_below HT.out (by repeat (first | (with_reducible first | exact HB.out | apply below_alloc | apply pw_below_drewN | apply below_drew1) | exact HB.out)) | (with_reducible refine Tabs_drewN ?_ _) | (with_reducible refine Tabs_drew ?_))); rintro e w9 ⟨rfl, hb⟩; refine ⟨_, rfl, ?_⟩; have n0_ := Aside0.mk (below_step (by repeat (first | (with_reducible first | exact HB.out | apply below_alloc | apply pw_below_drewN | apply below_drew1) | exact HB.out)) hb); clear HB; have HB := n0_; clear n0_; (try clear hb); (try clear hb2); (try clear hk); (try clear hi)) | ((with_reducible refine gate_callee (f := 30) rfl ?_); refine goesL_ (some 14) rfl rfl Tryd.func30 (by kernel_rfl) rfl #[.string a0] rfl (by (try simp only [List.map_toArray, List.map_cons, List.map_nil]); first | done | rfl | (simp only [List.length_drop, List.length_take]; rfl)) ?_; (with_reducible refine (day_Parse.calls k a0 t216 t217 _ ?side1 A6.out).mono ?_); (case side1 => repeat (first | exact HT.out | exact Tabs_below HT.out (by repeat (first | (with_reducible first | exact HB.out | apply below_alloc | apply pw_below_drewN | apply below_drew1) | exact HB.out)) | (with_reducible refine Tabs_drewN ?_ _) | (with_reducible refine Tabs_drew ?_))); rintro e w10 ⟨rfl, hb⟩; refine ⟨_, rfl, ?_⟩; have n0_ := Aside0.mk (below_step (by repeat (first | (with_reducible first | exact HB.out | apply below_alloc | apply pw_below_drewN | apply below_drew1) | exact HB.out)) hb); clear HB; have HB := n0_; clear n0_; (try clear hb); (try clear hb2); (try clear hk); (try clear hi)) | ((with_reducible refine gate_callee (f := 32) rfl ?_); refine goesL_ (some 19) rfl rfl Tryd.func32 (by kernel_rfl) rfl #[.string a0] rfl (by (try simp only [List.map_toArray, List.map_cons, List.map_nil]); first | done | rfl | (simp only [List.length_drop, List.length_take]; rfl)) ?_; (with_reducible refine (supercargoref02_Parse.calls k a0 t218 t219 _ A7.out).mono ?_); rintro e w' ⟨rfl, ⟨nd, rfl⟩⟩; refine ⟨_, rfl, ?_⟩))
      (try simp only [Act.put, List.setIfInBounds_toArray, List.set_cons_zero, List.set_cons_succ])
      go_cut [2] (fun v2 wc => ∃ (kq : Nat) (x2_7 : Bool), v2 = .bool x2_7 ∧ Aside0 (supercargolaw02_DayParses.j0 kq x2_7 = some r) ∧ Aside0 (kq ≤ k) ∧ Aside0 (Below w.heap.size w wc))
      case first =>
        have H := HC8.out
        clear HC8
        by_cases c11 : t216 = t218
        · rw [if_pos c11] at H
          have c11b0 : (t216 == t218) = true := beq_iff_eq.mpr c11
          have c11b1 : (t216 != t218) = false := bne_eq_false_iff_eq.mpr c11
          clear c11
          (first | rw [c11b0] | (simp only [i64_w, i32_w]; rw [c11b0]) | skip)
          by_cases c12 : t217 = t219
          · rw [if_pos c12] at H
            have c12b0 : (t217 == t219) = true := beq_iff_eq.mpr c12
            have c12b1 : (t217 != t219) = false := bne_eq_false_iff_eq.mpr c12
            clear c12
            by_cases c13 : t217 = 0
            · rw [if_pos c13] at H
              have c13b0 : (t217 == 0) = true := beq_iff_eq.mpr c13
              have c13b1 : (t217 != 0) = false := bne_eq_false_iff_eq.mpr c13
              clear c13
              replace H := Option.bind_eq_some_iff.mp H
              obtain ⟨t220, A140, H⟩ := H
              replace H : (supercargolaw02_DayParses.j0 k (t220.toList == a0.toList)) = some r := H
              have A14 := Aside0.mk A140
              clear A140
              have H' := Aside0.mk H
              clear H
              go_wp2_with (first | (go_at_call 29; (with_reducible refine (day_Text.calls k t216 t220 _ ?side1 A14.out).mono ?_); (case side1 => repeat (first | exact HT.out | exact Tabs_below HT.out (by repeat (first | (with_reducible first | exact HB.out | apply below_alloc | apply pw_below_drewN | apply below_drew1) | exact HB.out)) | (with_reducible refine Tabs_drewN ?_ _) | (with_reducible refine Tabs_drew ?_))); rintro e w15 ⟨rfl, hb⟩; have n0_ := Aside0.mk (below_step (by repeat (first | (with_reducible first | exact HB.out | apply below_alloc | apply pw_below_drewN | apply below_drew1) | exact HB.out)) hb); clear HB; have HB := n0_; clear n0_; (try clear hb); (try clear hb2); (try clear hk); (try clear hi)))
              go_meet
              case rel => exact ⟨_, ((t220.toList == a0.toList)), (by first | rfl | (simp; done) | (simp [*]; done)), H', ⟨by first | omega | exact Nat.le_refl _⟩, ⟨by repeat (first | (with_reducible first | exact HB.out | apply below_alloc | apply pw_below_drewN | apply below_drew1) | exact HB.out)⟩⟩
            · rw [if_neg c13] at H
              have c13b0 : (t217 == 0) = false := beq_eq_false_iff_ne.mpr c13
              have c13b1 : (t217 != 0) = true := bne_iff_ne.mpr c13
              have H' := Aside0.mk H
              clear H
              go_wp2
              go_meet
              case rel => exact ⟨_, (true), (by first | rfl | (simp; done) | (simp [*]; done)), H', ⟨by first | omega | exact Nat.le_refl _⟩, ⟨by repeat (first | (with_reducible first | exact HB.out | apply below_alloc | apply pw_below_drewN | apply below_drew1) | exact HB.out)⟩⟩
          · rw [if_neg c12] at H
            have c12b0 : (t217 == t219) = false := beq_eq_false_iff_ne.mpr c12
            have c12b1 : (t217 != t219) = true := bne_iff_ne.mpr c12
            have H' := Aside0.mk H
            clear H
            go_wp2
            go_meet
            case rel => exact ⟨_, (false), (by first | rfl | (simp; done) | (simp [*]; done)), H', ⟨by first | omega | exact Nat.le_refl _⟩, ⟨by repeat (first | (with_reducible first | exact HB.out | apply below_alloc | apply pw_below_drewN | apply below_drew1) | exact HB.out)⟩⟩
        · rw [if_neg c11] at H
          have c11b0 : (t216 == t218) = false := beq_eq_false_iff_ne.mpr c11
          have c11b1 : (t216 != t218) = true := bne_iff_ne.mpr c11
          (first | rw [c11b0] | (simp only [i64_w, i32_w]; rw [c11b0]) | skip)
          have H' := Aside0.mk H
          clear H
          go_wp2
          go_meet
          case rel => exact ⟨_, (false), (by first | rfl | (simp; done) | (simp [*]; done)), H', ⟨by first | omega | exact Nat.le_refl _⟩, ⟨by repeat (first | (with_reducible first | exact HB.out | apply below_alloc | apply pw_below_drewN | apply below_drew1) | exact HB.out)⟩⟩
      case rest =>
        clear HC8
        try clear c1
        try clear p2
        try clear c3
        try clear c4
        try clear c4b0
        try clear c4b1
        try clear c9
        try clear c10
        try clear c11
        try clear c11b0
        try clear c11b1
        try clear c12
        try clear c12b0
        try clear c12b1
        try clear c13
        try clear c13b0
        try clear c13b1
        obtain ⟨kq, x2_7, rfl, HA, HJ7, HB⟩ := hcut
        cases kq with
        | zero => exact absurd HA.out (by simp [supercargolaw02_DayParses.j0])
        | succ kj7 =>
          have H := HA.out
          clear HA
          simp only [supercargolaw02_DayParses.j0] at H
          obtain rfl := Option.some.inj H
          go_wp2
          go_ret
          exact ⟨by first | rfl | (simp [errW_none, errW_some] <;> rfl) | (simp [*, errW_none, errW_some] <;> rfl), by repeat (first | (with_reducible first | exact HB.out | apply below_alloc | apply pw_below_drewN | apply below_drew1) | exact HB.out)⟩
  · replace c3 := Bool.eq_false_iff.mpr c3
    subst c3
    have H1 : (some false) = some r := by rw [if_neg (show ¬ (false = true) by decide)] at H; exact H
    clear H
    have H := H1
    clear H1
    obtain rfl := Option.some.inj H
    go_enter Tryd.func9, Tryd.ntmps9
    go_wp2_with (first | ((with_reducible refine gate_callee (f := 10) rfl ?_); refine goesL_ (some 7) rfl rfl Tryd.func10 (by kernel_rfl) rfl #[] rfl (by (try simp only [List.map_toArray, List.map_cons, List.map_nil]); first | done | rfl | (simp only [List.length_drop, List.length_take]; rfl)) ?_; (with_reducible refine (supercargolaw02_awake.calls k  false _ ?side1 A2.out).mono ?_); (case side1 => repeat (first | exact HT.out | exact Tabs_below HT.out (by repeat (first | (with_reducible first | exact HB.out | apply below_alloc | apply pw_below_drewN | apply below_drew1) | exact HB.out)) | (with_reducible refine Tabs_drewN ?_ _) | (with_reducible refine Tabs_drew ?_))); rintro e w16 ⟨rfl, hb⟩; refine ⟨_, rfl, ?_⟩; have n0_ := Aside0.mk (below_step (by repeat (first | (with_reducible first | exact HB.out | apply below_alloc | apply pw_below_drewN | apply below_drew1) | exact HB.out)) hb); clear HB; have HB := n0_; clear n0_; (try clear hb); (try clear hb2); (try clear hk); (try clear hi)))
    go_ret
    exact ⟨by first | rfl | (simp [errW_none, errW_some] <;> rfl) | (simp [*, errW_none, errW_some] <;> rfl), by repeat (first | (with_reducible first | exact HB.out | apply below_alloc | apply pw_below_drewN | apply below_drew1) | exact HB.out)⟩

end Go.Proofs.YtpmclpblnhjjeaaDoor.P
