-- Written by the session's own program xprint.py, which runs the kit's print over functions given by hand.
import Derived.Test.YtjmbglgchmhahaaPx0
import Derived.Test.YtjmbglgchmhahaaPx5
namespace Go.Proofs.Ytjmbglgchmhahaa.P
open Go.RowKit Go.Proofs.YtjmbglgchmhahaaW.PrintWords Go.Proofs.YtjmbglgchmhahaaW.PrintLast Go.Proofs.YtjmbglgchmhahaaW.PrintMore
attribute [local go_sem] max2_int min2_int max_two min_two max_three min_three max_four min_four   -- for this text's walks alone
set_option linter.unusedVariables false
set_option linter.unusedSimpArgs false

/-! ### supercargolaw22_EndorseCuts: function 3 -/
mutual
def supercargolaw22_EndorseCuts.j0 : Nat → ByteArray → List (S31) → Int → Bool → Option (Bool)
  | 0, _, _, _, _ => none
  | k + 1, x0, x1, x2, x24 => if x24 = true then (some true) else (if x2 < 0 then (supercargolaw22_EndorseCuts.j1 k x0 x1 x2 0) else (supercargolaw22_EndorseCuts.j1 k x0 x1 x2 x2))
def supercargolaw22_EndorseCuts.j1 : Nat → ByteArray → List (S31) → Int → Int → Option (Bool)
  | 0, _, _, _, _ => none
  | k + 1, x0, x1, x2, x7 => if x7 > (x1.length : Int) then (supercargolaw22_EndorseCuts.j2 k x0 x1 x2 (x1.length : Int)) else (supercargolaw22_EndorseCuts.j2 k x0 x1 x2 x7)
def supercargolaw22_EndorseCuts.j2 : Nat → ByteArray → List (S31) → Int → Int → Option (Bool)
  | 0, _, _, _, _ => none
  | k + 1, x0, x1, x2, x7 => (endorse_Cut.f x1 x2).bind fun t154 => (if 0 ≤ x7 then (if x7 ≤ (x1.length : Int) then ((supercargoref22_Same.f k t154 (x1.take (x7 : Int).toNat)).bind fun t161 => (if t161 = true then ((endorse_Check.f k x0 x1).bind fun bt162 => ((endorse_Check.f k x0 t154).bind fun bt165 => (if bt162.2.2 = 0 then (if x7 > 0 then (if 0 ≤ (wrap64 (x7 - 1)) then (if (wrap64 (x7 - 1)) < (x1.length : Int) then (supercargolaw22_EndorseCuts.j4 k x7 bt165.1 bt165.2.1 bt165.2.2 ((rd_T31 x1 (wrap64 (x7 - 1))).f1)) else (none)) else (none)) else (supercargolaw22_EndorseCuts.j4 k x7 bt165.1 bt165.2.1 bt165.2.2 x0)) else (if x7 ≤ bt162.2.1 then (if bt165.2.2 = 0 then (supercargolaw22_EndorseCuts.j3 k true) else (if bt165.2.2 = 1 then (supercargolaw22_EndorseCuts.j3 k true) else (if x7 > bt162.2.1 then (if bt165.2.2 = bt162.2.2 then (supercargolaw22_EndorseCuts.j3 k (bt165.2.1 == bt162.2.1)) else (supercargolaw22_EndorseCuts.j3 k false)) else (supercargolaw22_EndorseCuts.j3 k false)))) else (if x7 > bt162.2.1 then (if bt165.2.2 = bt162.2.2 then (supercargolaw22_EndorseCuts.j3 k (bt165.2.1 == bt162.2.1)) else (supercargolaw22_EndorseCuts.j3 k false)) else (supercargolaw22_EndorseCuts.j3 k false)))))) else (some false))) else (none)) else (none))
def supercargolaw22_EndorseCuts.j4 : Nat → Int → ByteArray → Int → Int → ByteArray → Option (Bool)
  | 0, _, _, _, _, _ => none
  | k + 1, x7, x12, x13, x14, x15 => if x14 = 0 then (if x13 = x7 then (supercargolaw22_EndorseCuts.j5 k (x12.toList == x15.toList)) else (supercargolaw22_EndorseCuts.j5 k false)) else (supercargolaw22_EndorseCuts.j5 k false)
def supercargolaw22_EndorseCuts.j5 : Nat → Bool → Option (Bool)
  | 0, _ => none
  | k + 1, x6 => some x6
def supercargolaw22_EndorseCuts.j3 : Nat → Bool → Option (Bool)
  | 0, _ => none
  | k + 1, x6 => some x6
end
def supercargolaw22_EndorseCuts.f (k : Nat) (a0 : ByteArray) (l1 : List (S31)) (a2 : Int) : Option (Bool) := (supercargolaw22_awake.f k).bind fun t152 => (if t152 = true then ((supercargoref22_Big.f k l1 30).bind fun t153 => (if t153 = true then (supercargolaw22_EndorseCuts.j0 k a0 l1 a2 true) else (supercargolaw22_EndorseCuts.j0 k a0 l1 a2 (decide ((a0.size : Int) > 100))))) else (some false))
theorem supercargolaw22_EndorseCuts.mono_l : ∀ k, (∀ y0 y1 y2 y3, LeO (supercargolaw22_EndorseCuts.j0 k y0 y1 y2 y3) (supercargolaw22_EndorseCuts.j0 (k + 1) y0 y1 y2 y3)) ∧ (∀ y0 y1 y2 y3, LeO (supercargolaw22_EndorseCuts.j1 k y0 y1 y2 y3) (supercargolaw22_EndorseCuts.j1 (k + 1) y0 y1 y2 y3)) ∧ (∀ y0 y1 y2 y3, LeO (supercargolaw22_EndorseCuts.j2 k y0 y1 y2 y3) (supercargolaw22_EndorseCuts.j2 (k + 1) y0 y1 y2 y3)) ∧ (∀ y0 y1 y2 y3 y4, LeO (supercargolaw22_EndorseCuts.j4 k y0 y1 y2 y3 y4) (supercargolaw22_EndorseCuts.j4 (k + 1) y0 y1 y2 y3 y4)) ∧ (∀ y0, LeO (supercargolaw22_EndorseCuts.j5 k y0) (supercargolaw22_EndorseCuts.j5 (k + 1) y0)) ∧ (∀ y0, LeO (supercargolaw22_EndorseCuts.j3 k y0) (supercargolaw22_EndorseCuts.j3 (k + 1) y0))
  | 0 => ⟨fun _ _ _ _ r h => by simp [supercargolaw22_EndorseCuts.j0] at h, fun _ _ _ _ r h => by simp [supercargolaw22_EndorseCuts.j1] at h, fun _ _ _ _ r h => by simp [supercargolaw22_EndorseCuts.j2] at h, fun _ _ _ _ _ r h => by simp [supercargolaw22_EndorseCuts.j4] at h, fun _ r h => by simp [supercargolaw22_EndorseCuts.j5] at h, fun _ r h => by simp [supercargolaw22_EndorseCuts.j3] at h⟩
  | k + 1 => by
    obtain ⟨ih0, ih1, ih2, ih3, ih4, ih5⟩ := supercargolaw22_EndorseCuts.mono_l k
    refine ⟨?_, ?_, ?_, ?_, ?_, ?_⟩
    · intro y0 y1 y2 y3
      unfold supercargolaw22_EndorseCuts.j0
      repeat' first
      | (with_reducible exact ih0 _ _ _ _)
      | (with_reducible exact ih1 _ _ _ _)
      | (with_reducible exact ih2 _ _ _ _)
      | (with_reducible exact ih3 _ _ _ _ _)
      | (with_reducible exact ih4 _)
      | (with_reducible exact ih5 _)
      | (with_reducible exact endorse_Check.mono _ _ _)
      | (with_reducible exact supercargolaw22_awake.mono _)
      | (with_reducible exact supercargoref22_Big.mono _ _ _)
      | (with_reducible exact supercargoref22_Same.mono _ _ _)
      | (with_reducible exact LeO.refl _)
      | (with_reducible exact LeO.none _)
      | (with_reducible refine LeO.ite ?_ ?_)
      | (with_reducible refine LeO.bind ?_ (fun _ => ?_))
      | exact ih0 _ _ _ _
      | exact ih1 _ _ _ _
      | exact ih2 _ _ _ _
      | exact ih3 _ _ _ _ _
      | exact ih4 _
      | exact ih5 _
      | exact endorse_Check.mono _ _ _
      | exact supercargolaw22_awake.mono _
      | exact supercargoref22_Big.mono _ _ _
      | exact supercargoref22_Same.mono _ _ _
      | exact LeO.none _
      | refine LeO.ite ?_ ?_
      | refine LeO.bind ?_ (fun _ => ?_)
    · intro y0 y1 y2 y3
      unfold supercargolaw22_EndorseCuts.j1
      repeat' first
      | (with_reducible exact ih0 _ _ _ _)
      | (with_reducible exact ih1 _ _ _ _)
      | (with_reducible exact ih2 _ _ _ _)
      | (with_reducible exact ih3 _ _ _ _ _)
      | (with_reducible exact ih4 _)
      | (with_reducible exact ih5 _)
      | (with_reducible exact endorse_Check.mono _ _ _)
      | (with_reducible exact supercargolaw22_awake.mono _)
      | (with_reducible exact supercargoref22_Big.mono _ _ _)
      | (with_reducible exact supercargoref22_Same.mono _ _ _)
      | (with_reducible exact LeO.refl _)
      | (with_reducible exact LeO.none _)
      | (with_reducible refine LeO.ite ?_ ?_)
      | (with_reducible refine LeO.bind ?_ (fun _ => ?_))
      | exact ih0 _ _ _ _
      | exact ih1 _ _ _ _
      | exact ih2 _ _ _ _
      | exact ih3 _ _ _ _ _
      | exact ih4 _
      | exact ih5 _
      | exact endorse_Check.mono _ _ _
      | exact supercargolaw22_awake.mono _
      | exact supercargoref22_Big.mono _ _ _
      | exact supercargoref22_Same.mono _ _ _
      | exact LeO.none _
      | refine LeO.ite ?_ ?_
      | refine LeO.bind ?_ (fun _ => ?_)
    · intro y0 y1 y2 y3
      unfold supercargolaw22_EndorseCuts.j2
      repeat' first
      | (with_reducible exact ih0 _ _ _ _)
      | (with_reducible exact ih1 _ _ _ _)
      | (with_reducible exact ih2 _ _ _ _)
      | (with_reducible exact ih3 _ _ _ _ _)
      | (with_reducible exact ih4 _)
      | (with_reducible exact ih5 _)
      | (with_reducible exact endorse_Check.mono _ _ _)
      | (with_reducible exact supercargolaw22_awake.mono _)
      | (with_reducible exact supercargoref22_Big.mono _ _ _)
      | (with_reducible exact supercargoref22_Same.mono _ _ _)
      | (with_reducible exact LeO.refl _)
      | (with_reducible exact LeO.none _)
      | (with_reducible refine LeO.ite ?_ ?_)
      | (with_reducible refine LeO.bind ?_ (fun _ => ?_))
      | exact ih0 _ _ _ _
      | exact ih1 _ _ _ _
      | exact ih2 _ _ _ _
      | exact ih3 _ _ _ _ _
      | exact ih4 _
      | exact ih5 _
      | exact endorse_Check.mono _ _ _
      | exact supercargolaw22_awake.mono _
      | exact supercargoref22_Big.mono _ _ _
      | exact supercargoref22_Same.mono _ _ _
      | exact LeO.none _
      | refine LeO.ite ?_ ?_
      | refine LeO.bind ?_ (fun _ => ?_)
    · intro y0 y1 y2 y3 y4
      unfold supercargolaw22_EndorseCuts.j4
      repeat' first
      | (with_reducible exact ih0 _ _ _ _)
      | (with_reducible exact ih1 _ _ _ _)
      | (with_reducible exact ih2 _ _ _ _)
      | (with_reducible exact ih3 _ _ _ _ _)
      | (with_reducible exact ih4 _)
      | (with_reducible exact ih5 _)
      | (with_reducible exact endorse_Check.mono _ _ _)
      | (with_reducible exact supercargolaw22_awake.mono _)
      | (with_reducible exact supercargoref22_Big.mono _ _ _)
      | (with_reducible exact supercargoref22_Same.mono _ _ _)
      | (with_reducible exact LeO.refl _)
      | (with_reducible exact LeO.none _)
      | (with_reducible refine LeO.ite ?_ ?_)
      | (with_reducible refine LeO.bind ?_ (fun _ => ?_))
      | exact ih0 _ _ _ _
      | exact ih1 _ _ _ _
      | exact ih2 _ _ _ _
      | exact ih3 _ _ _ _ _
      | exact ih4 _
      | exact ih5 _
      | exact endorse_Check.mono _ _ _
      | exact supercargolaw22_awake.mono _
      | exact supercargoref22_Big.mono _ _ _
      | exact supercargoref22_Same.mono _ _ _
      | exact LeO.none _
      | refine LeO.ite ?_ ?_
      | refine LeO.bind ?_ (fun _ => ?_)
    · intro y0
      unfold supercargolaw22_EndorseCuts.j5
      repeat' first
      | (with_reducible exact ih0 _ _ _ _)
      | (with_reducible exact ih1 _ _ _ _)
      | (with_reducible exact ih2 _ _ _ _)
      | (with_reducible exact ih3 _ _ _ _ _)
      | (with_reducible exact ih4 _)
      | (with_reducible exact ih5 _)
      | (with_reducible exact endorse_Check.mono _ _ _)
      | (with_reducible exact supercargolaw22_awake.mono _)
      | (with_reducible exact supercargoref22_Big.mono _ _ _)
      | (with_reducible exact supercargoref22_Same.mono _ _ _)
      | (with_reducible exact LeO.refl _)
      | (with_reducible exact LeO.none _)
      | (with_reducible refine LeO.ite ?_ ?_)
      | (with_reducible refine LeO.bind ?_ (fun _ => ?_))
      | exact ih0 _ _ _ _
      | exact ih1 _ _ _ _
      | exact ih2 _ _ _ _
      | exact ih3 _ _ _ _ _
      | exact ih4 _
      | exact ih5 _
      | exact endorse_Check.mono _ _ _
      | exact supercargolaw22_awake.mono _
      | exact supercargoref22_Big.mono _ _ _
      | exact supercargoref22_Same.mono _ _ _
      | exact LeO.none _
      | refine LeO.ite ?_ ?_
      | refine LeO.bind ?_ (fun _ => ?_)
    · intro y0
      unfold supercargolaw22_EndorseCuts.j3
      repeat' first
      | (with_reducible exact ih0 _ _ _ _)
      | (with_reducible exact ih1 _ _ _ _)
      | (with_reducible exact ih2 _ _ _ _)
      | (with_reducible exact ih3 _ _ _ _ _)
      | (with_reducible exact ih4 _)
      | (with_reducible exact ih5 _)
      | (with_reducible exact endorse_Check.mono _ _ _)
      | (with_reducible exact supercargolaw22_awake.mono _)
      | (with_reducible exact supercargoref22_Big.mono _ _ _)
      | (with_reducible exact supercargoref22_Same.mono _ _ _)
      | (with_reducible exact LeO.refl _)
      | (with_reducible exact LeO.none _)
      | (with_reducible refine LeO.ite ?_ ?_)
      | (with_reducible refine LeO.bind ?_ (fun _ => ?_))
      | exact ih0 _ _ _ _
      | exact ih1 _ _ _ _
      | exact ih2 _ _ _ _
      | exact ih3 _ _ _ _ _
      | exact ih4 _
      | exact ih5 _
      | exact endorse_Check.mono _ _ _
      | exact supercargolaw22_awake.mono _
      | exact supercargoref22_Big.mono _ _ _
      | exact supercargoref22_Same.mono _ _ _
      | exact LeO.none _
      | refine LeO.ite ?_ ?_
      | refine LeO.bind ?_ (fun _ => ?_)
theorem supercargolaw22_EndorseCuts.mono : ∀ a0 a1 a2 k, LeO (supercargolaw22_EndorseCuts.f k a0 a1 a2) (supercargolaw22_EndorseCuts.f (k + 1) a0 a1 a2) := by
  intro a0 a1 a2 k
  obtain ⟨ih0, ih1, ih2, ih3, ih4, ih5⟩ := supercargolaw22_EndorseCuts.mono_l k
  unfold supercargolaw22_EndorseCuts.f
  repeat' first
      | (with_reducible exact ih0 _ _ _ _)
      | (with_reducible exact ih1 _ _ _ _)
      | (with_reducible exact ih2 _ _ _ _)
      | (with_reducible exact ih3 _ _ _ _ _)
      | (with_reducible exact ih4 _)
      | (with_reducible exact ih5 _)
      | (with_reducible exact endorse_Check.mono _ _ _)
      | (with_reducible exact supercargolaw22_awake.mono _)
      | (with_reducible exact supercargoref22_Big.mono _ _ _)
      | (with_reducible exact supercargoref22_Same.mono _ _ _)
      | (with_reducible exact LeO.refl _)
      | (with_reducible exact LeO.none _)
      | (with_reducible refine LeO.ite ?_ ?_)
      | (with_reducible refine LeO.bind ?_ (fun _ => ?_))
      | exact ih0 _ _ _ _
      | exact ih1 _ _ _ _
      | exact ih2 _ _ _ _
      | exact ih3 _ _ _ _ _
      | exact ih4 _
      | exact ih5 _
      | exact endorse_Check.mono _ _ _
      | exact supercargolaw22_awake.mono _
      | exact supercargoref22_Big.mono _ _ _
      | exact supercargoref22_Same.mono _ _ _
      | exact LeO.none _
      | refine LeO.ite ?_ ?_
      | refine LeO.bind ?_ (fun _ => ?_)
set_option maxHeartbeats 8000000 in
set_option maxRecDepth 100000 in
theorem supercargolaw22_EndorseCuts.calls (k : Nat) (a0 : ByteArray) (A1 : Option Addr) (c1 : Nat) (l1 : List (S31)) (a2 : Int) (r : Bool) (w : World) (hr1 : Kd.C k31 w A1 l1.length l1) (hc1 : l1.length ≤ c1) (h : supercargolaw22_EndorseCuts.f k a0 l1 a2 = some r) :
    Calls Try.prog 3 #[.string a0, .slice A1 l1.length c1, .int .i64 a2] w fun e w' => e = .returned (.bool r) ∧ Below w.heap.size w w' := by
  have HR1 := Aside0.mk hr1
  have HC1 := Aside0.mk hc1
  clear hr1 hc1
  have HB := Aside0.mk (Below.refl w.heap.size w)
  have H : ((supercargolaw22_awake.f k).bind fun t152 => (if t152 = true then ((supercargoref22_Big.f k l1 30).bind fun t153 => (if t153 = true then (supercargolaw22_EndorseCuts.j0 k a0 l1 a2 true) else (supercargolaw22_EndorseCuts.j0 k a0 l1 a2 (decide ((a0.size : Int) > 100))))) else (some false))) = some r := h
  clear h
  replace H := Option.bind_eq_some_iff.mp H
  obtain ⟨t152, A40, H⟩ := H
  replace H : (if t152 = true then ((supercargoref22_Big.f k l1 30).bind fun t153 => (if t153 = true then (supercargolaw22_EndorseCuts.j0 k a0 l1 a2 true) else (supercargolaw22_EndorseCuts.j0 k a0 l1 a2 (decide ((a0.size : Int) > 100))))) else (some false)) = some r := H
  have A4 := Aside0.mk A40
  clear A40
  by_cases c5 : t152 = true
  · subst c5
    have H1 : ((supercargoref22_Big.f k l1 30).bind fun t153 => (if t153 = true then (supercargolaw22_EndorseCuts.j0 k a0 l1 a2 true) else (supercargolaw22_EndorseCuts.j0 k a0 l1 a2 (decide ((a0.size : Int) > 100))))) = some r := by rw [if_pos rfl] at H; exact H
    clear H
    have H := H1
    clear H1
    have HC6 := Aside0.mk H
    clear H
    go_enter Try.func3, Try.ntmps3
    go_upto_region 3 with (first | ((with_reducible refine gate_callee (f := 7) rfl ?_); refine goesL_ (some 16) rfl rfl Try.func7 (by kernel_rfl) rfl #[] rfl (by (try simp only [List.map_toArray, List.map_cons, List.map_nil]); first | done | rfl | (simp only [List.length_drop, List.length_take]; rfl)) ?_; (with_reducible refine (supercargolaw22_awake.calls k  true _ A4.out).mono ?_); rintro e w7 ⟨rfl, hb⟩; refine ⟨_, rfl, ?_⟩; have n0_ := Aside0.mk (below_step (by repeat (first | (with_reducible first | exact HB.out | apply below_alloc | apply pw_below_drewN | apply below_drew1) | exact HB.out)) hb); clear HB; have HB := n0_; clear n0_; (try clear hb); (try clear hb2); (try clear hk); (try clear hi)))
    (try simp only [Act.put, List.setIfInBounds_toArray, List.set_cons_zero, List.set_cons_succ])
    go_cut [24] (fun v24 wc => ∃ (kq : Nat) (x24_5 : Bool), v24 = .bool x24_5 ∧ Aside0 (supercargolaw22_EndorseCuts.j0 kq a0 l1 a2 x24_5 = some r) ∧ Aside0 (kq ≤ k) ∧ Aside0 (Below w.heap.size w wc))
    case first =>
      have H := HC6.out
      clear HC6
      replace H := Option.bind_eq_some_iff.mp H
      obtain ⟨t153, A80, H⟩ := H
      replace H : (if t153 = true then (supercargolaw22_EndorseCuts.j0 k a0 l1 a2 true) else (supercargolaw22_EndorseCuts.j0 k a0 l1 a2 (decide ((a0.size : Int) > 100)))) = some r := H
      have A8 := Aside0.mk A80
      clear A80
      by_cases c9 : t153 = true
      · subst c9
        have H1 : (supercargolaw22_EndorseCuts.j0 k a0 l1 a2 true) = some r := by rw [if_pos rfl] at H; exact H
        clear H
        have H := H1
        clear H1
        have H' := Aside0.mk H
        clear H
        go_wp2_with (first | ((with_reducible refine gate_callee (f := 8) rfl ?_); refine goesL_ (some 19) rfl rfl Try.func8 (by kernel_rfl) rfl #[.slice A1 l1.length c1, .int .i64 30] rfl (by (try simp only [List.map_toArray, List.map_cons, List.map_nil]); first | done | rfl | (simp only [List.length_drop, List.length_take]; rfl)) ?_; (with_reducible refine (supercargoref22_Big.calls k _ _ l1 30 true _ ?side1 ?side2 A8.out).mono ?_); (case side1 => repeat (first | exact (Kd.C_below HR1.out HB.out) | (with_reducible refine Kd.C_alloc ?_ _) | (with_reducible refine Kd.C_drewN ?_ _) | (with_reducible refine Kd.C_drew ?_))); (case side2 => exact HC1.out); rintro e w' ⟨rfl, ⟨nd, rfl⟩⟩; refine ⟨_, rfl, ?_⟩))
        go_meet
        case rel => exact ⟨_, (true), (by first | rfl | (simp; done) | (simp [*]; done)), H', ⟨by first | omega | exact Nat.le_refl _⟩, ⟨by repeat (first | (with_reducible first | exact HB.out | apply below_alloc | apply pw_below_drewN | apply below_drew1) | exact HB.out)⟩⟩
      · replace c9 := Bool.eq_false_iff.mpr c9
        subst c9
        have H1 : (supercargolaw22_EndorseCuts.j0 k a0 l1 a2 (decide ((a0.size : Int) > 100))) = some r := by rw [if_neg (show ¬ (false = true) by decide)] at H; exact H
        clear H
        have H := H1
        clear H1
        have H' := Aside0.mk H
        clear H
        go_wp2_with (first | ((with_reducible refine gate_callee (f := 8) rfl ?_); refine goesL_ (some 19) rfl rfl Try.func8 (by kernel_rfl) rfl #[.slice A1 l1.length c1, .int .i64 30] rfl (by (try simp only [List.map_toArray, List.map_cons, List.map_nil]); first | done | rfl | (simp only [List.length_drop, List.length_take]; rfl)) ?_; (with_reducible refine (supercargoref22_Big.calls k _ _ l1 30 false _ ?side1 ?side2 A8.out).mono ?_); (case side1 => repeat (first | exact (Kd.C_below HR1.out HB.out) | (with_reducible refine Kd.C_alloc ?_ _) | (with_reducible refine Kd.C_drewN ?_ _) | (with_reducible refine Kd.C_drew ?_))); (case side2 => exact HC1.out); rintro e w' ⟨rfl, ⟨nd, rfl⟩⟩; refine ⟨_, rfl, ?_⟩))
        go_meet
        case rel => exact ⟨_, (decide ((a0.size : Int) > 100)), (by first | rfl | (simp; done) | (simp [*]; done)), H', ⟨by first | omega | exact Nat.le_refl _⟩, ⟨by repeat (first | (with_reducible first | exact HB.out | apply below_alloc | apply pw_below_drewN | apply below_drew1) | exact HB.out)⟩⟩
    case rest =>
      clear HC6
      try clear c1
      try clear p2
      try clear c3
      try clear c5
      try clear c7
      try clear c8
      try clear c9
      obtain ⟨kq, x24_5, rfl, HA, HJ5, HB⟩ := hcut
      cases kq with
      | zero => exact absurd HA.out (by simp [supercargolaw22_EndorseCuts.j0])
      | succ kj5 =>
        have H := HA.out
        clear HA
        simp only [supercargolaw22_EndorseCuts.j0] at H
        by_cases c10 : x24_5 = true
        · subst c10
          have H1 : (some true) = some r := by rw [if_pos rfl] at H; exact H
          clear H
          have H := H1
          clear H1
          obtain rfl := Option.some.inj H
          go_wp2
          go_ret
          exact ⟨by first | rfl | (simp [errW_none, errW_some] <;> rfl) | (simp [*, errW_none, errW_some] <;> rfl), by repeat (first | (with_reducible first | exact HB.out | apply below_alloc | apply pw_below_drewN | apply below_drew1) | exact HB.out)⟩
        · replace c10 := Bool.eq_false_iff.mpr c10
          subst c10
          have H1 : (if a2 < 0 then (supercargolaw22_EndorseCuts.j1 kj5 a0 l1 a2 0) else (supercargolaw22_EndorseCuts.j1 kj5 a0 l1 a2 a2)) = some r := by rw [if_neg (show ¬ (false = true) by decide)] at H; exact H
          clear H
          have H := H1
          clear H1
          have HC11 := Aside0.mk H
          clear H
          go_upto_if 27 with (fail)
          go_cut [7] (fun v7 wc => ∃ (kq : Nat) (x7_10 : Int), v7 = .int .i64 x7_10 ∧ Aside0 (supercargolaw22_EndorseCuts.j1 kq a0 l1 a2 x7_10 = some r) ∧ Aside0 (kq ≤ kj5) ∧ Aside0 (Below w.heap.size w wc))
          case first =>
            have H := HC11.out
            clear HC11
            by_cases c12 : a2 < 0
            · rw [if_pos c12] at H
              have c12b0 : decide (a2 < 0) = true := decide_eq_true c12
              clear c12
              (first | rw [c12b0] | (simp only [i64_w, i32_w]; rw [c12b0]) | skip)
              have H' := Aside0.mk H
              clear H
              go_wp2
              go_meet
              case rel => exact ⟨_, (0), (by first | rfl | (simp; done) | (simp [*]; done)), H', ⟨by have := HJ5.out; first | omega | exact Nat.le_refl _⟩, ⟨by repeat (first | (with_reducible first | exact HB.out | apply below_alloc | apply pw_below_drewN | apply below_drew1) | exact HB.out)⟩⟩
            · rw [if_neg c12] at H
              have c12b0 : decide (a2 < 0) = false := decide_eq_false c12
              clear c12
              (first | rw [c12b0] | (simp only [i64_w, i32_w]; rw [c12b0]) | skip)
              have H' := Aside0.mk H
              clear H
              go_wp2
              go_meet
              case rel => exact ⟨_, (a2), (by first | rfl | (simp; done) | (simp [*]; done)), H', ⟨by have := HJ5.out; first | omega | exact Nat.le_refl _⟩, ⟨by repeat (first | (with_reducible first | exact HB.out | apply below_alloc | apply pw_below_drewN | apply below_drew1) | exact HB.out)⟩⟩
          case rest =>
            clear HC11
            try clear c1
            try clear p2
            try clear c3
            try clear c5
            try clear c7
            try clear c8
            try clear c9
            try clear c10
            try clear c12
            try clear c12b0
            try clear p2
            obtain ⟨kq, x7_10, rfl, HA, HJ10, HB⟩ := hcut
            cases kq with
            | zero => exact absurd HA.out (by simp [supercargolaw22_EndorseCuts.j1])
            | succ kj10 =>
              have H := HA.out
              clear HA
              simp only [supercargolaw22_EndorseCuts.j1] at H
              have HC13 := Aside0.mk H
              clear H
              go_upto_if 31 with (fail)
              go_cut [7] (fun v7 wc => ∃ (kq : Nat) (x7_12 : Int), v7 = .int .i64 x7_12 ∧ Aside0 (supercargolaw22_EndorseCuts.j2 kq a0 l1 a2 x7_12 = some r) ∧ Aside0 (kq ≤ kj10) ∧ Aside0 (Below w.heap.size w wc))
              case first =>
                have H := HC13.out
                clear HC13
                by_cases c14 : x7_10 > (l1.length : Int)
                · rw [if_pos c14] at H
                  have c14b0 : decide ((l1.length : Int) < x7_10) = true := decide_eq_true c14
                  clear c14
                  (first | rw [c14b0] | (simp only [i64_w, i32_w]; rw [c14b0]) | skip)
                  have H' := Aside0.mk H
                  clear H
                  go_wp2
                  go_meet
                  case rel => exact ⟨_, ((l1.length : Int)), (by first | rfl | (simp; done) | (simp [*]; done)), H', ⟨by have := HJ5.out; have := HJ10.out; first | omega | exact Nat.le_refl _⟩, ⟨by repeat (first | (with_reducible first | exact HB.out | apply below_alloc | apply pw_below_drewN | apply below_drew1) | exact HB.out)⟩⟩
                · rw [if_neg c14] at H
                  have c14b0 : decide ((l1.length : Int) < x7_10) = false := decide_eq_false c14
                  clear c14
                  (first | rw [c14b0] | (simp only [i64_w, i32_w]; rw [c14b0]) | skip)
                  have H' := Aside0.mk H
                  clear H
                  go_wp2
                  go_meet
                  case rel => exact ⟨_, (x7_10), (by first | rfl | (simp; done) | (simp [*]; done)), H', ⟨by have := HJ5.out; have := HJ10.out; first | omega | exact Nat.le_refl _⟩, ⟨by repeat (first | (with_reducible first | exact HB.out | apply below_alloc | apply pw_below_drewN | apply below_drew1) | exact HB.out)⟩⟩
              case rest =>
                clear HC13
                try clear c1
                try clear p2
                try clear c3
                try clear c5
                try clear c7
                try clear c8
                try clear c9
                try clear c10
                try clear c12
                try clear c12b0
                try clear c14
                try clear c14b0
                try clear p2
                obtain ⟨kq, x7_12, rfl, HA, HJ12, HB⟩ := hcut
                cases kq with
                | zero => exact absurd HA.out (by simp [supercargolaw22_EndorseCuts.j2])
                | succ kj12 =>
                  have H := HA.out
                  clear HA
                  simp only [supercargolaw22_EndorseCuts.j2] at H
                  replace H := Option.bind_eq_some_iff.mp H
                  obtain ⟨t154, A150, H⟩ := H
                  replace H : (if 0 ≤ x7_12 then (if x7_12 ≤ (l1.length : Int) then ((supercargoref22_Same.f kj12 t154 (l1.take (x7_12 : Int).toNat)).bind fun t161 => (if t161 = true then ((endorse_Check.f kj12 a0 l1).bind fun bt162 => ((endorse_Check.f kj12 a0 t154).bind fun bt165 => (if bt162.2.2 = 0 then (if x7_12 > 0 then (if 0 ≤ (wrap64 (x7_12 - 1)) then (if (wrap64 (x7_12 - 1)) < (l1.length : Int) then (supercargolaw22_EndorseCuts.j4 kj12 x7_12 bt165.1 bt165.2.1 bt165.2.2 ((rd_T31 l1 (wrap64 (x7_12 - 1))).f1)) else (none)) else (none)) else (supercargolaw22_EndorseCuts.j4 kj12 x7_12 bt165.1 bt165.2.1 bt165.2.2 a0)) else (if x7_12 ≤ bt162.2.1 then (if bt165.2.2 = 0 then (supercargolaw22_EndorseCuts.j3 kj12 true) else (if bt165.2.2 = 1 then (supercargolaw22_EndorseCuts.j3 kj12 true) else (if x7_12 > bt162.2.1 then (if bt165.2.2 = bt162.2.2 then (supercargolaw22_EndorseCuts.j3 kj12 (bt165.2.1 == bt162.2.1)) else (supercargolaw22_EndorseCuts.j3 kj12 false)) else (supercargolaw22_EndorseCuts.j3 kj12 false)))) else (if x7_12 > bt162.2.1 then (if bt165.2.2 = bt162.2.2 then (supercargolaw22_EndorseCuts.j3 kj12 (bt165.2.1 == bt162.2.1)) else (supercargolaw22_EndorseCuts.j3 kj12 false)) else (supercargolaw22_EndorseCuts.j3 kj12 false)))))) else (some false))) else (none)) else (none)) = some r := H
                  have A15 := Aside0.mk A150
                  clear A150
                  by_cases c16 : 0 ≤ x7_12
                  · rw [if_pos c16] at H
                    have c16b0 := eq_true c16
                    have c16b1 : decide (0 ≤ x7_12) = true := decide_eq_true c16
                    clear c16
                    by_cases c17 : x7_12 ≤ (l1.length : Int)
                    · rw [if_pos c17] at H
                      have c17b0 := eq_true c17
                      have c17b1 : decide (x7_12 ≤ (l1.length : Int)) = true := decide_eq_true c17
                      clear c17
                      obtain ⟨y157, hy157⟩ : ∃ y_ : List (S31), y_ = (l1.take (x7_12 : Int).toNat) := ⟨_, rfl⟩
                      replace H : ((supercargoref22_Same.f kj12 t154 y157).bind fun t161 => (if t161 = true then ((endorse_Check.f kj12 a0 l1).bind fun bt162 => ((endorse_Check.f kj12 a0 t154).bind fun bt165 => (if bt162.2.2 = 0 then (if x7_12 > 0 then (if 0 ≤ (wrap64 (x7_12 - 1)) then (if (wrap64 (x7_12 - 1)) < (l1.length : Int) then (supercargolaw22_EndorseCuts.j4 kj12 x7_12 bt165.1 bt165.2.1 bt165.2.2 ((rd_T31 l1 (wrap64 (x7_12 - 1))).f1)) else (none)) else (none)) else (supercargolaw22_EndorseCuts.j4 kj12 x7_12 bt165.1 bt165.2.1 bt165.2.2 a0)) else (if x7_12 ≤ bt162.2.1 then (if bt165.2.2 = 0 then (supercargolaw22_EndorseCuts.j3 kj12 true) else (if bt165.2.2 = 1 then (supercargolaw22_EndorseCuts.j3 kj12 true) else (if x7_12 > bt162.2.1 then (if bt165.2.2 = bt162.2.2 then (supercargolaw22_EndorseCuts.j3 kj12 (bt165.2.1 == bt162.2.1)) else (supercargolaw22_EndorseCuts.j3 kj12 false)) else (supercargolaw22_EndorseCuts.j3 kj12 false)))) else (if x7_12 > bt162.2.1 then (if bt165.2.2 = bt162.2.2 then (supercargolaw22_EndorseCuts.j3 kj12 (bt165.2.1 == bt162.2.1)) else (supercargolaw22_EndorseCuts.j3 kj12 false)) else (supercargolaw22_EndorseCuts.j3 kj12 false)))))) else (some false))) = some r := by first | (rw [hy157]; with_reducible exact H) | (have H2_ := (Option.bind_some _ _).symm.trans H; rw [hy157]; with_reducible exact H2_) | (have H2_ := (Option.bind_some _ _).symm.trans H; with_reducible exact H2_) | with_reducible exact H | (rw [hy157]; exact H) | exact H
                      have Ny157 := Aside0.mk hy157
                      clear hy157
                      replace H := Option.bind_eq_some_iff.mp H
                      obtain ⟨t161, A180, H⟩ := H
                      replace H : (if t161 = true then ((endorse_Check.f kj12 a0 l1).bind fun bt162 => ((endorse_Check.f kj12 a0 t154).bind fun bt165 => (if bt162.2.2 = 0 then (if x7_12 > 0 then (if 0 ≤ (wrap64 (x7_12 - 1)) then (if (wrap64 (x7_12 - 1)) < (l1.length : Int) then (supercargolaw22_EndorseCuts.j4 kj12 x7_12 bt165.1 bt165.2.1 bt165.2.2 ((rd_T31 l1 (wrap64 (x7_12 - 1))).f1)) else (none)) else (none)) else (supercargolaw22_EndorseCuts.j4 kj12 x7_12 bt165.1 bt165.2.1 bt165.2.2 a0)) else (if x7_12 ≤ bt162.2.1 then (if bt165.2.2 = 0 then (supercargolaw22_EndorseCuts.j3 kj12 true) else (if bt165.2.2 = 1 then (supercargolaw22_EndorseCuts.j3 kj12 true) else (if x7_12 > bt162.2.1 then (if bt165.2.2 = bt162.2.2 then (supercargolaw22_EndorseCuts.j3 kj12 (bt165.2.1 == bt162.2.1)) else (supercargolaw22_EndorseCuts.j3 kj12 false)) else (supercargolaw22_EndorseCuts.j3 kj12 false)))) else (if x7_12 > bt162.2.1 then (if bt165.2.2 = bt162.2.2 then (supercargolaw22_EndorseCuts.j3 kj12 (bt165.2.1 == bt162.2.1)) else (supercargolaw22_EndorseCuts.j3 kj12 false)) else (supercargolaw22_EndorseCuts.j3 kj12 false)))))) else (some false)) = some r := H
                      have A18 := Aside0.mk A180
                      clear A180
                      by_cases c19 : t161 = true
                      · subst c19
                        have H1 : ((endorse_Check.f kj12 a0 l1).bind fun bt162 => ((endorse_Check.f kj12 a0 t154).bind fun bt165 => (if bt162.2.2 = 0 then (if x7_12 > 0 then (if 0 ≤ (wrap64 (x7_12 - 1)) then (if (wrap64 (x7_12 - 1)) < (l1.length : Int) then (supercargolaw22_EndorseCuts.j4 kj12 x7_12 bt165.1 bt165.2.1 bt165.2.2 ((rd_T31 l1 (wrap64 (x7_12 - 1))).f1)) else (none)) else (none)) else (supercargolaw22_EndorseCuts.j4 kj12 x7_12 bt165.1 bt165.2.1 bt165.2.2 a0)) else (if x7_12 ≤ bt162.2.1 then (if bt165.2.2 = 0 then (supercargolaw22_EndorseCuts.j3 kj12 true) else (if bt165.2.2 = 1 then (supercargolaw22_EndorseCuts.j3 kj12 true) else (if x7_12 > bt162.2.1 then (if bt165.2.2 = bt162.2.2 then (supercargolaw22_EndorseCuts.j3 kj12 (bt165.2.1 == bt162.2.1)) else (supercargolaw22_EndorseCuts.j3 kj12 false)) else (supercargolaw22_EndorseCuts.j3 kj12 false)))) else (if x7_12 > bt162.2.1 then (if bt165.2.2 = bt162.2.2 then (supercargolaw22_EndorseCuts.j3 kj12 (bt165.2.1 == bt162.2.1)) else (supercargolaw22_EndorseCuts.j3 kj12 false)) else (supercargolaw22_EndorseCuts.j3 kj12 false)))))) = some r := by rw [if_pos rfl] at H; exact H
                        clear H
                        have H := H1
                        clear H1
                        replace H := Option.bind_eq_some_iff.mp H
                        obtain ⟨⟨t162, t163, t164⟩, A200, H⟩ := H
                        replace H : ((endorse_Check.f kj12 a0 t154).bind fun bt165 => (if t164 = 0 then (if x7_12 > 0 then (if 0 ≤ (wrap64 (x7_12 - 1)) then (if (wrap64 (x7_12 - 1)) < (l1.length : Int) then (supercargolaw22_EndorseCuts.j4 kj12 x7_12 bt165.1 bt165.2.1 bt165.2.2 ((rd_T31 l1 (wrap64 (x7_12 - 1))).f1)) else (none)) else (none)) else (supercargolaw22_EndorseCuts.j4 kj12 x7_12 bt165.1 bt165.2.1 bt165.2.2 a0)) else (if x7_12 ≤ t163 then (if bt165.2.2 = 0 then (supercargolaw22_EndorseCuts.j3 kj12 true) else (if bt165.2.2 = 1 then (supercargolaw22_EndorseCuts.j3 kj12 true) else (if x7_12 > t163 then (if bt165.2.2 = t164 then (supercargolaw22_EndorseCuts.j3 kj12 (bt165.2.1 == t163)) else (supercargolaw22_EndorseCuts.j3 kj12 false)) else (supercargolaw22_EndorseCuts.j3 kj12 false)))) else (if x7_12 > t163 then (if bt165.2.2 = t164 then (supercargolaw22_EndorseCuts.j3 kj12 (bt165.2.1 == t163)) else (supercargolaw22_EndorseCuts.j3 kj12 false)) else (supercargolaw22_EndorseCuts.j3 kj12 false))))) = some r := H
                        have A20 := Aside0.mk A200
                        clear A200
                        replace H := Option.bind_eq_some_iff.mp H
                        obtain ⟨⟨t165, t166, t167⟩, A210, H⟩ := H
                        replace H : (if t164 = 0 then (if x7_12 > 0 then (if 0 ≤ (wrap64 (x7_12 - 1)) then (if (wrap64 (x7_12 - 1)) < (l1.length : Int) then (supercargolaw22_EndorseCuts.j4 kj12 x7_12 t165 t166 t167 ((rd_T31 l1 (wrap64 (x7_12 - 1))).f1)) else (none)) else (none)) else (supercargolaw22_EndorseCuts.j4 kj12 x7_12 t165 t166 t167 a0)) else (if x7_12 ≤ t163 then (if t167 = 0 then (supercargolaw22_EndorseCuts.j3 kj12 true) else (if t167 = 1 then (supercargolaw22_EndorseCuts.j3 kj12 true) else (if x7_12 > t163 then (if t167 = t164 then (supercargolaw22_EndorseCuts.j3 kj12 (t166 == t163)) else (supercargolaw22_EndorseCuts.j3 kj12 false)) else (supercargolaw22_EndorseCuts.j3 kj12 false)))) else (if x7_12 > t163 then (if t167 = t164 then (supercargolaw22_EndorseCuts.j3 kj12 (t166 == t163)) else (supercargolaw22_EndorseCuts.j3 kj12 false)) else (supercargolaw22_EndorseCuts.j3 kj12 false)))) = some r := H
                        have A21 := Aside0.mk A210
                        clear A210
                        by_cases c22 : t164 = 0
                        · rw [if_pos c22] at H
                          have c22b0 : (t164 == 0) = true := beq_iff_eq.mpr c22
                          have c22b1 : (t164 != 0) = false := bne_eq_false_iff_eq.mpr c22
                          clear c22
                          have HC23 := Aside0.mk H
                          clear H
                          go_upto_if 87 with (first | ((with_reducible refine gate_callee (f := 9) rfl ?_); refine goesL_ (some 36) rfl rfl Try.func9 (by kernel_rfl) rfl #[.slice A1 l1.length c1, .int .i64 a2] rfl (by (try simp only [List.map_toArray, List.map_cons, List.map_nil]); first | done | rfl | (simp only [List.length_drop, List.length_take]; rfl)) ?_; (with_reducible refine (endorse_Cut.calls _ _ l1 a2 t154 _ ?side1 ?side2 A15.out).mono ?_); (case side1 => repeat (first | exact (Kd.C_below HR1.out HB.out) | (with_reducible refine Kd.C_alloc ?_ _) | (with_reducible refine Kd.C_drewN ?_ _) | (with_reducible refine Kd.C_drew ?_))); (case side2 => exact HC1.out); rintro e w24 ⟨v155, rfl, ho0, hb⟩; refine ⟨_, rfl, ?_⟩; have n0_ := Aside0.mk (Kd.R_lower ho0 (below_size (by repeat (first | (with_reducible first | exact HB.out | apply below_alloc | apply pw_below_drewN | apply below_drew1) | exact HB.out)))); have n1_ := Aside0.mk (below_step (by repeat (first | (with_reducible first | exact HB.out | apply below_alloc | apply pw_below_drewN | apply below_drew1) | exact HB.out)) hb); clear HB; have HO156 := n0_; have HB := n1_; clear n0_ n1_; (try clear hb); (try clear hb2); (try clear hk); (try clear hi); (try clear ho0); have q25 : (x7_12 : Int) ≤ ((l1.length : Int) : Int) := of_decide_eq_true (by first | (with_reducible assumption) | assumption); obtain ⟨i025, hi025, _, hsz25, _⟩ := info_parts info31; have hroom25 : l1.length ≤ c1 := HC1.out; have hC25 : Kd.C k31 _ A1 l1.length l1 := HR1.out; have hcut25 := cut_to (P := Try.prog) 22 31 .i64 Try.underlying22 hi025 A1 l1.length c1 x7_12 (of_decide_eq_true (by first | (with_reducible assumption) | assumption)) q25 hroom25; have hr25 := Kd.C_take (m := (x7_12 : Int).toNat) hC25 (by omega); have hy25 : y157.length = (x7_12 : Int).toNat := (by rw [Ny157.out, List.length_take]; omega); rw [← Ny157.out] at hr25; rw [← hy25] at hcut25; have HR160 := Aside0.mk hr25; have HC160 := Aside0.mk (show y157.length ≤ c1 from by omega); clear hr25 hC25 hroom25 hi025 hsz25; have KY25 := Aside0.mk hy25; clear hy25; replace q25 := eq_true q25; obtain ⟨Ao26, co26, eo26⟩ := Kd.R_slice HO156.out; subst eo26) | ((with_reducible refine gate_callee (f := 10) rfl ?_); refine goesL_ (some 41) rfl rfl Try.func10 (by kernel_rfl) rfl #[.slice Ao26 t154.length co26, .slice A1 y157.length c1] rfl (by (try simp only [List.map_toArray, List.map_cons, List.map_nil]); first | done | rfl | (simp only [List.length_drop, List.length_take]; rfl)) ?_; (with_reducible refine (supercargoref22_Same.calls kj12 _ _ t154 _ _ y157 true _ ?side1 ?side2 ?side3 ?side4 A18.out).mono ?_); (case side1 => repeat (first | exact (Kd.R_reads' HO156.out).2.2 | (with_reducible refine Kd.C_alloc ?_ _) | (with_reducible refine Kd.C_drewN ?_ _) | (with_reducible refine Kd.C_drew ?_))); (case side2 => exact (Kd.R_reads' HO156.out).2.1); (case side3 => repeat (first | exact (Kd.C_below HR160.out HB.out) | (with_reducible refine Kd.C_alloc ?_ _) | (with_reducible refine Kd.C_drewN ?_ _) | (with_reducible refine Kd.C_drew ?_))); (case side4 => exact HC160.out); rintro e w' ⟨rfl, ⟨nd, rfl⟩⟩; refine ⟨_, rfl, ?_⟩) | ((with_reducible refine gate_callee (f := 11) rfl ?_); refine goesL_ (some 46) rfl rfl Try.func11 (by kernel_rfl) rfl #[.string a0, .slice A1 l1.length c1] rfl (by (try simp only [List.map_toArray, List.map_cons, List.map_nil]); first | done | rfl | (simp only [List.length_drop, List.length_take]; rfl)) ?_; (with_reducible refine (endorse_Check.calls kj12 a0 _ _ l1 t162 t163 t164 _ ?side1 ?side2 A20.out).mono ?_); (case side1 => repeat (first | exact (Kd.C_below HR1.out (by repeat (first | (with_reducible first | exact HB.out | apply below_alloc | apply pw_below_drewN | apply below_drew1) | exact HB.out))) | (with_reducible refine Kd.C_alloc ?_ _) | (with_reducible refine Kd.C_drewN ?_ _) | (with_reducible refine Kd.C_drew ?_))); (case side2 => exact HC1.out); rintro e w27 ⟨rfl, hb⟩; refine ⟨_, rfl, ?_⟩; have n0_ := Aside0.mk (Kd.R_below (by (with_reducible repeat (first | apply Kd.R_alloc | apply Kd.R_drewN | apply Kd.R_drew)); exact HO156.out) hb); have n1_ := Aside0.mk (below_step (by repeat (first | (with_reducible first | exact HB.out | apply below_alloc | apply pw_below_drewN | apply below_drew1) | exact HB.out)) hb); clear HO156; clear HB; have HO156 := n0_; have HB := n1_; clear n0_ n1_; (try clear hb); (try clear hb2); (try clear hk); (try clear hi)) | ((with_reducible refine gate_callee (f := 11) rfl ?_); refine goesL_ (some 53) rfl rfl Try.func11 (by kernel_rfl) rfl #[.string a0, .slice Ao26 t154.length co26] rfl (by (try simp only [List.map_toArray, List.map_cons, List.map_nil]); first | done | rfl | (simp only [List.length_drop, List.length_take]; rfl)) ?_; (with_reducible refine (endorse_Check.calls kj12 a0 _ _ t154 t165 t166 t167 _ ?side1 ?side2 A21.out).mono ?_); (case side1 => repeat (first | exact (Kd.R_reads' HO156.out).2.2 | (with_reducible refine Kd.C_alloc ?_ _) | (with_reducible refine Kd.C_drewN ?_ _) | (with_reducible refine Kd.C_drew ?_))); (case side2 => exact (Kd.R_reads' HO156.out).2.1); rintro e w28 ⟨rfl, hb⟩; refine ⟨_, rfl, ?_⟩; have n0_ := Aside0.mk (Kd.R_below (by (with_reducible repeat (first | apply Kd.R_alloc | apply Kd.R_drewN | apply Kd.R_drew)); exact HO156.out) hb); have n1_ := Aside0.mk (below_step (by repeat (first | (with_reducible first | exact HB.out | apply below_alloc | apply pw_below_drewN | apply below_drew1) | exact HB.out)) hb); clear HO156; clear HB; have HO156 := n0_; have HB := n1_; clear n0_ n1_; (try clear hb); (try clear hb2); (try clear hk); (try clear hi)))
                          (try simp only [Act.put, List.setIfInBounds_toArray, List.set_cons_zero, List.set_cons_succ])
                          go_cut [15] (fun v15 wc => ∃ (kq : Nat) (x15_22 : ByteArray), v15 = .string x15_22 ∧ Aside0 (supercargolaw22_EndorseCuts.j4 kq x7_12 t165 t166 t167 x15_22 = some r) ∧ Aside0 (kq ≤ kj12) ∧ Aside0 (Below w.heap.size w wc))
                          case first =>
                            have H := HC23.out
                            clear HC23
                            by_cases c29 : x7_12 > 0
                            · rw [if_pos c29] at H
                              have c29b0 : decide (0 < x7_12) = true := decide_eq_true c29
                              clear c29
                              (first | rw [c29b0] | (simp only [i64_w, i32_w]; rw [c29b0]) | skip)
                              obtain ⟨ji30, hji30⟩ : ∃ j_ : Int, (wrap64 (x7_12 - 1)) = j_ := ⟨_, rfl⟩
                              replace H : (if 0 ≤ (ji30) then (if (ji30) < (l1.length : Int) then (supercargolaw22_EndorseCuts.j4 kj12 x7_12 t165 t166 t167 ((rd_T31 l1 (ji30)).f1)) else (none)) else (none)) = some r := by first | (rw [hji30] at H; exact H) | (simp only [hji30] at H ⊢; exact H)
                              have hji30w : (IntKind.i64.wrap (x7_12 - 1)) = ji30 := (i64_w _).trans hji30
                              by_cases c31 : 0 ≤ (ji30)
                              · rw [if_pos c31] at H
                                have c31b0 : decide (0 ≤ (ji30)) = true := decide_eq_true c31
                                clear c31
                                by_cases c32 : (ji30) < (l1.length : Int)
                                · rw [if_pos c32] at H
                                  have c32b0 : decide ((ji30) < (l1.length : Int)) = true := decide_eq_true c32
                                  clear c32
                                  have H' := Aside0.mk H
                                  clear H
                                  have p168 : 0 ≤ ((ji30) : Int) := of_decide_eq_true (by first | (with_reducible assumption) | assumption)
                                  have q168 : (ji30) < (l1.length : Int) := of_decide_eq_true (by first | (with_reducible assumption) | assumption)
                                  obtain ⟨ad168, e168, hx168_0, hx168_1, hx168_2, hx168_3⟩ := at_T31 HR1.out (ji30) p168 q168
                                  cases e168
                                  replace hx168_0 := (HB.out.cell (World.block_lt_of_cell? w _ hx168_0)).trans hx168_0
                                  replace hx168_1 := (HB.out.cell (World.block_lt_of_cell? w _ hx168_1)).trans hx168_1
                                  replace hx168_2 := (HB.out.cell (World.block_lt_of_cell? w _ hx168_2)).trans hx168_2
                                  replace hx168_3 := (HB.out.cell (World.block_lt_of_cell? w _ hx168_3)).trans hx168_3
                                  replace p168 := eq_true p168
                                  replace q168 := eq_true q168
                                  go_wp2
                                  go_meet
                                  case rel => exact ⟨_, ((rd_T31 l1 (ji30)).f1), (by first | rfl | (simp; done) | (simp only [← hji30] <;> (first | rfl | simp)) | (simp [*]; done)), H', ⟨by have := HJ5.out; have := HJ10.out; have := HJ12.out; first | omega | exact Nat.le_refl _⟩, ⟨by repeat (first | (with_reducible first | exact HB.out | apply below_alloc | apply pw_below_drewN | apply below_drew1) | exact HB.out)⟩⟩
                                · rw [if_neg c32] at H
                                  exact absurd H (by simp)
                              · rw [if_neg c31] at H
                                exact absurd H (by simp)
                            · rw [if_neg c29] at H
                              have c29b0 : decide (0 < x7_12) = false := decide_eq_false c29
                              clear c29
                              (first | rw [c29b0] | (simp only [i64_w, i32_w]; rw [c29b0]) | skip)
                              have H' := Aside0.mk H
                              clear H
                              go_wp2
                              go_meet
                              case rel => exact ⟨_, (a0), (by first | rfl | (simp; done) | (simp [*]; done)), H', ⟨by have := HJ5.out; have := HJ10.out; have := HJ12.out; first | omega | exact Nat.le_refl _⟩, ⟨by repeat (first | (with_reducible first | exact HB.out | apply below_alloc | apply pw_below_drewN | apply below_drew1) | exact HB.out)⟩⟩
                          case rest =>
                            clear HC23
                            try clear c1
                            try clear p1
                            try clear q1
                            try clear hx1
                            try clear c2
                            try clear p2
                            try clear q2
                            try clear c3
                            try clear c5
                            try clear p6
                            try clear c7
                            try clear c8
                            try clear c9
                            try clear c10
                            try clear c11
                            try clear c12
                            try clear c12b0
                            try clear c14
                            try clear c14b0
                            try clear c16
                            try clear c16b0
                            try clear c16b1
                            try clear p16
                            try clear q16
                            try clear hx16
                            try clear c17
                            try clear c17b0
                            try clear c17b1
                            try clear c19
                            try clear c22
                            try clear c22b0
                            try clear c22b1
                            try clear q25
                            try clear c29
                            try clear c29b0
                            try clear c31
                            try clear c31b0
                            try clear c32
                            try clear c32b0
                            try clear hx168_0
                            try clear hx168_1
                            try clear hx168_2
                            try clear hx168_3
                            try clear p168
                            try clear p2
                            try clear q168
                            try clear q25
                            obtain ⟨kq, x15_22, rfl, HA, HJ22, HB⟩ := hcut
                            cases kq with
                            | zero => exact absurd HA.out (by simp [supercargolaw22_EndorseCuts.j4])
                            | succ kj22 =>
                              have H := HA.out
                              clear HA
                              simp only [supercargolaw22_EndorseCuts.j4] at H
                              have HC33 := Aside0.mk H
                              clear H
                              go_upto_region 20 with (fail)
                              go_cut [6] (fun v6 wc => ∃ (kq : Nat) (x6_32 : Bool), v6 = .bool x6_32 ∧ Aside0 (supercargolaw22_EndorseCuts.j5 kq x6_32 = some r) ∧ Aside0 (kq ≤ kj22) ∧ Aside0 (Below w.heap.size w wc))
                              case first =>
                                have H := HC33.out
                                clear HC33
                                by_cases c34 : t167 = 0
                                · rw [if_pos c34] at H
                                  have c34b0 : (t167 == 0) = true := beq_iff_eq.mpr c34
                                  have c34b1 : (t167 != 0) = false := bne_eq_false_iff_eq.mpr c34
                                  clear c34
                                  (first | rw [c34b0] | (simp only [i64_w, i32_w]; rw [c34b0]) | skip)
                                  by_cases c35 : t166 = x7_12
                                  · rw [if_pos c35] at H
                                    have c35b0 : (t166 == x7_12) = true := beq_iff_eq.mpr c35
                                    have c35b1 : (t166 != x7_12) = false := bne_eq_false_iff_eq.mpr c35
                                    clear c35
                                    have H' := Aside0.mk H
                                    clear H
                                    go_wp2
                                    go_meet
                                    case rel => exact ⟨_, ((t165.toList == x15_22.toList)), (by first | rfl | (simp; done) | (simp [*]; done)), H', ⟨by have := HJ5.out; have := HJ10.out; have := HJ12.out; have := HJ22.out; first | omega | exact Nat.le_refl _⟩, ⟨by repeat (first | (with_reducible first | exact HB.out | apply below_alloc | apply pw_below_drewN | apply below_drew1) | exact HB.out)⟩⟩
                                  · rw [if_neg c35] at H
                                    have c35b0 : (t166 == x7_12) = false := beq_eq_false_iff_ne.mpr c35
                                    have c35b1 : (t166 != x7_12) = true := bne_iff_ne.mpr c35
                                    have H' := Aside0.mk H
                                    clear H
                                    go_wp2
                                    go_meet
                                    case rel => exact ⟨_, (false), (by first | rfl | (simp; done) | (simp [*]; done)), H', ⟨by have := HJ5.out; have := HJ10.out; have := HJ12.out; have := HJ22.out; first | omega | exact Nat.le_refl _⟩, ⟨by repeat (first | (with_reducible first | exact HB.out | apply below_alloc | apply pw_below_drewN | apply below_drew1) | exact HB.out)⟩⟩
                                · rw [if_neg c34] at H
                                  have c34b0 : (t167 == 0) = false := beq_eq_false_iff_ne.mpr c34
                                  have c34b1 : (t167 != 0) = true := bne_iff_ne.mpr c34
                                  (first | rw [c34b0] | (simp only [i64_w, i32_w]; rw [c34b0]) | skip)
                                  have H' := Aside0.mk H
                                  clear H
                                  go_wp2
                                  go_meet
                                  case rel => exact ⟨_, (false), (by first | rfl | (simp; done) | (simp [*]; done)), H', ⟨by have := HJ5.out; have := HJ10.out; have := HJ12.out; have := HJ22.out; first | omega | exact Nat.le_refl _⟩, ⟨by repeat (first | (with_reducible first | exact HB.out | apply below_alloc | apply pw_below_drewN | apply below_drew1) | exact HB.out)⟩⟩
                              case rest =>
                                clear HC33
                                try clear c1
                                try clear p1
                                try clear q1
                                try clear hx1
                                try clear c2
                                try clear p2
                                try clear q2
                                try clear c3
                                try clear c5
                                try clear p6
                                try clear c7
                                try clear c8
                                try clear c9
                                try clear c10
                                try clear c11
                                try clear c12
                                try clear c12b0
                                try clear c14
                                try clear c14b0
                                try clear c16
                                try clear c16b0
                                try clear c16b1
                                try clear p16
                                try clear q16
                                try clear hx16
                                try clear c17
                                try clear c17b0
                                try clear c17b1
                                try clear c19
                                try clear c22
                                try clear c22b0
                                try clear c22b1
                                try clear q25
                                try clear c29
                                try clear c29b0
                                try clear c31
                                try clear c31b0
                                try clear c32
                                try clear c32b0
                                try clear c34
                                try clear c34b0
                                try clear c34b1
                                try clear c35
                                try clear c35b0
                                try clear c35b1
                                try clear hx168_0
                                try clear hx168_1
                                try clear hx168_2
                                try clear hx168_3
                                try clear p1
                                try clear p16
                                try clear p168
                                try clear p2
                                try clear p6
                                try clear q1
                                try clear q16
                                try clear q168
                                try clear q2
                                try clear q25
                                obtain ⟨kq, x6_32, rfl, HA, HJ32, HB⟩ := hcut
                                cases kq with
                                | zero => exact absurd HA.out (by simp [supercargolaw22_EndorseCuts.j5])
                                | succ kj32 =>
                                  have H := HA.out
                                  clear HA
                                  simp only [supercargolaw22_EndorseCuts.j5] at H
                                  obtain rfl := Option.some.inj H
                                  go_wp2
                                  go_ret
                                  exact ⟨by first | rfl | (simp [errW_none, errW_some] <;> rfl) | (simp [*, errW_none, errW_some] <;> rfl), by repeat (first | (with_reducible first | exact HB.out | apply below_alloc | apply pw_below_drewN | apply below_drew1) | exact HB.out)⟩
                        · rw [if_neg c22] at H
                          have c22b0 : (t164 == 0) = false := beq_eq_false_iff_ne.mpr c22
                          have c22b1 : (t164 != 0) = true := bne_iff_ne.mpr c22
                          have HC36 := Aside0.mk H
                          clear H
                          go_upto_region 16 with (first | ((with_reducible refine gate_callee (f := 9) rfl ?_); refine goesL_ (some 36) rfl rfl Try.func9 (by kernel_rfl) rfl #[.slice A1 l1.length c1, .int .i64 a2] rfl (by (try simp only [List.map_toArray, List.map_cons, List.map_nil]); first | done | rfl | (simp only [List.length_drop, List.length_take]; rfl)) ?_; (with_reducible refine (endorse_Cut.calls _ _ l1 a2 t154 _ ?side1 ?side2 A15.out).mono ?_); (case side1 => repeat (first | exact (Kd.C_below HR1.out HB.out) | (with_reducible refine Kd.C_alloc ?_ _) | (with_reducible refine Kd.C_drewN ?_ _) | (with_reducible refine Kd.C_drew ?_))); (case side2 => exact HC1.out); rintro e w37 ⟨v155, rfl, ho0, hb⟩; refine ⟨_, rfl, ?_⟩; have n0_ := Aside0.mk (Kd.R_lower ho0 (below_size (by repeat (first | (with_reducible first | exact HB.out | apply below_alloc | apply pw_below_drewN | apply below_drew1) | exact HB.out)))); have n1_ := Aside0.mk (below_step (by repeat (first | (with_reducible first | exact HB.out | apply below_alloc | apply pw_below_drewN | apply below_drew1) | exact HB.out)) hb); clear HB; have HO156 := n0_; have HB := n1_; clear n0_ n1_; (try clear hb); (try clear hb2); (try clear hk); (try clear hi); (try clear ho0); have q38 : (x7_12 : Int) ≤ ((l1.length : Int) : Int) := of_decide_eq_true (by first | (with_reducible assumption) | assumption); obtain ⟨i038, hi038, _, hsz38, _⟩ := info_parts info31; have hroom38 : l1.length ≤ c1 := HC1.out; have hC38 : Kd.C k31 _ A1 l1.length l1 := HR1.out; have hcut38 := cut_to (P := Try.prog) 22 31 .i64 Try.underlying22 hi038 A1 l1.length c1 x7_12 (of_decide_eq_true (by first | (with_reducible assumption) | assumption)) q38 hroom38; have hr38 := Kd.C_take (m := (x7_12 : Int).toNat) hC38 (by omega); have hy38 : y157.length = (x7_12 : Int).toNat := (by rw [Ny157.out, List.length_take]; omega); rw [← Ny157.out] at hr38; rw [← hy38] at hcut38; have HR160 := Aside0.mk hr38; have HC160 := Aside0.mk (show y157.length ≤ c1 from by omega); clear hr38 hC38 hroom38 hi038 hsz38; have KY38 := Aside0.mk hy38; clear hy38; replace q38 := eq_true q38; obtain ⟨Ao39, co39, eo39⟩ := Kd.R_slice HO156.out; subst eo39) | ((with_reducible refine gate_callee (f := 10) rfl ?_); refine goesL_ (some 41) rfl rfl Try.func10 (by kernel_rfl) rfl #[.slice Ao39 t154.length co39, .slice A1 y157.length c1] rfl (by (try simp only [List.map_toArray, List.map_cons, List.map_nil]); first | done | rfl | (simp only [List.length_drop, List.length_take]; rfl)) ?_; (with_reducible refine (supercargoref22_Same.calls kj12 _ _ t154 _ _ y157 true _ ?side1 ?side2 ?side3 ?side4 A18.out).mono ?_); (case side1 => repeat (first | exact (Kd.R_reads' HO156.out).2.2 | (with_reducible refine Kd.C_alloc ?_ _) | (with_reducible refine Kd.C_drewN ?_ _) | (with_reducible refine Kd.C_drew ?_))); (case side2 => exact (Kd.R_reads' HO156.out).2.1); (case side3 => repeat (first | exact (Kd.C_below HR160.out HB.out) | (with_reducible refine Kd.C_alloc ?_ _) | (with_reducible refine Kd.C_drewN ?_ _) | (with_reducible refine Kd.C_drew ?_))); (case side4 => exact HC160.out); rintro e w' ⟨rfl, ⟨nd, rfl⟩⟩; refine ⟨_, rfl, ?_⟩) | ((with_reducible refine gate_callee (f := 11) rfl ?_); refine goesL_ (some 46) rfl rfl Try.func11 (by kernel_rfl) rfl #[.string a0, .slice A1 l1.length c1] rfl (by (try simp only [List.map_toArray, List.map_cons, List.map_nil]); first | done | rfl | (simp only [List.length_drop, List.length_take]; rfl)) ?_; (with_reducible refine (endorse_Check.calls kj12 a0 _ _ l1 t162 t163 t164 _ ?side1 ?side2 A20.out).mono ?_); (case side1 => repeat (first | exact (Kd.C_below HR1.out (by repeat (first | (with_reducible first | exact HB.out | apply below_alloc | apply pw_below_drewN | apply below_drew1) | exact HB.out))) | (with_reducible refine Kd.C_alloc ?_ _) | (with_reducible refine Kd.C_drewN ?_ _) | (with_reducible refine Kd.C_drew ?_))); (case side2 => exact HC1.out); rintro e w40 ⟨rfl, hb⟩; refine ⟨_, rfl, ?_⟩; have n0_ := Aside0.mk (Kd.R_below (by (with_reducible repeat (first | apply Kd.R_alloc | apply Kd.R_drewN | apply Kd.R_drew)); exact HO156.out) hb); have n1_ := Aside0.mk (below_step (by repeat (first | (with_reducible first | exact HB.out | apply below_alloc | apply pw_below_drewN | apply below_drew1) | exact HB.out)) hb); clear HO156; clear HB; have HO156 := n0_; have HB := n1_; clear n0_ n1_; (try clear hb); (try clear hb2); (try clear hk); (try clear hi)) | ((with_reducible refine gate_callee (f := 11) rfl ?_); refine goesL_ (some 53) rfl rfl Try.func11 (by kernel_rfl) rfl #[.string a0, .slice Ao39 t154.length co39] rfl (by (try simp only [List.map_toArray, List.map_cons, List.map_nil]); first | done | rfl | (simp only [List.length_drop, List.length_take]; rfl)) ?_; (with_reducible refine (endorse_Check.calls kj12 a0 _ _ t154 t165 t166 t167 _ ?side1 ?side2 A21.out).mono ?_); (case side1 => repeat (first | exact (Kd.R_reads' HO156.out).2.2 | (with_reducible refine Kd.C_alloc ?_ _) | (with_reducible refine Kd.C_drewN ?_ _) | (with_reducible refine Kd.C_drew ?_))); (case side2 => exact (Kd.R_reads' HO156.out).2.1); rintro e w41 ⟨rfl, hb⟩; refine ⟨_, rfl, ?_⟩; have n0_ := Aside0.mk (Kd.R_below (by (with_reducible repeat (first | apply Kd.R_alloc | apply Kd.R_drewN | apply Kd.R_drew)); exact HO156.out) hb); have n1_ := Aside0.mk (below_step (by repeat (first | (with_reducible first | exact HB.out | apply below_alloc | apply pw_below_drewN | apply below_drew1) | exact HB.out)) hb); clear HO156; clear HB; have HO156 := n0_; have HB := n1_; clear n0_ n1_; (try clear hb); (try clear hb2); (try clear hk); (try clear hi)))
                          (try simp only [Act.put, List.setIfInBounds_toArray, List.set_cons_zero, List.set_cons_succ])
                          go_cut [6] (fun v6 wc => ∃ (kq : Nat) (x6_35 : Bool), v6 = .bool x6_35 ∧ Aside0 (supercargolaw22_EndorseCuts.j3 kq x6_35 = some r) ∧ Aside0 (kq ≤ kj12) ∧ Aside0 (Below w.heap.size w wc))
                          case first =>
                            have H := HC36.out
                            clear HC36
                            by_cases c42 : x7_12 ≤ t163
                            · rw [if_pos c42] at H
                              have c42b0 : decide (x7_12 ≤ t163) = true := decide_eq_true c42
                              clear c42
                              (first | rw [c42b0] | (simp only [i64_w, i32_w]; rw [c42b0]) | skip)
                              by_cases c43 : t167 = 0
                              · rw [if_pos c43] at H
                                have c43b0 : (t167 == 0) = true := beq_iff_eq.mpr c43
                                have c43b1 : (t167 != 0) = false := bne_eq_false_iff_eq.mpr c43
                                clear c43
                                have H' := Aside0.mk H
                                clear H
                                go_wp2
                                go_meet
                                case rel => exact ⟨_, (true), (by first | rfl | (simp; done) | (simp [*]; done)), H', ⟨by have := HJ5.out; have := HJ10.out; have := HJ12.out; first | omega | exact Nat.le_refl _⟩, ⟨by repeat (first | (with_reducible first | exact HB.out | apply below_alloc | apply pw_below_drewN | apply below_drew1) | exact HB.out)⟩⟩
                              · rw [if_neg c43] at H
                                have c43b0 : (t167 == 0) = false := beq_eq_false_iff_ne.mpr c43
                                have c43b1 : (t167 != 0) = true := bne_iff_ne.mpr c43
                                by_cases c44 : t167 = 1
                                · rw [if_pos c44] at H
                                  have c44b0 : (t167 == 1) = true := beq_iff_eq.mpr c44
                                  have c44b1 : (t167 != 1) = false := bne_eq_false_iff_eq.mpr c44
                                  clear c44
                                  have H' := Aside0.mk H
                                  clear H
                                  go_wp2
                                  go_meet
                                  case rel => exact ⟨_, (true), (by first | rfl | (simp; done) | (simp [*]; done)), H', ⟨by have := HJ5.out; have := HJ10.out; have := HJ12.out; first | omega | exact Nat.le_refl _⟩, ⟨by repeat (first | (with_reducible first | exact HB.out | apply below_alloc | apply pw_below_drewN | apply below_drew1) | exact HB.out)⟩⟩
                                · rw [if_neg c44] at H
                                  have c44b0 : (t167 == 1) = false := beq_eq_false_iff_ne.mpr c44
                                  have c44b1 : (t167 != 1) = true := bne_iff_ne.mpr c44
                                  by_cases c45 : x7_12 > t163
                                  · rw [if_pos c45] at H
                                    have c45b0 : decide (t163 < x7_12) = true := decide_eq_true c45
                                    clear c45
                                    by_cases c46 : t167 = t164
                                    · rw [if_pos c46] at H
                                      have c46b0 : (t167 == t164) = true := beq_iff_eq.mpr c46
                                      have c46b1 : (t167 != t164) = false := bne_eq_false_iff_eq.mpr c46
                                      clear c46
                                      have H' := Aside0.mk H
                                      clear H
                                      go_wp2
                                      go_meet
                                      case rel => exact ⟨_, ((t166 == t163)), (by first | rfl | (simp; done) | (simp [*]; done)), H', ⟨by have := HJ5.out; have := HJ10.out; have := HJ12.out; first | omega | exact Nat.le_refl _⟩, ⟨by repeat (first | (with_reducible first | exact HB.out | apply below_alloc | apply pw_below_drewN | apply below_drew1) | exact HB.out)⟩⟩
                                    · rw [if_neg c46] at H
                                      have c46b0 : (t167 == t164) = false := beq_eq_false_iff_ne.mpr c46
                                      have c46b1 : (t167 != t164) = true := bne_iff_ne.mpr c46
                                      have H' := Aside0.mk H
                                      clear H
                                      go_wp2
                                      go_meet
                                      case rel => exact ⟨_, (false), (by first | rfl | (simp; done) | (simp [*]; done)), H', ⟨by have := HJ5.out; have := HJ10.out; have := HJ12.out; first | omega | exact Nat.le_refl _⟩, ⟨by repeat (first | (with_reducible first | exact HB.out | apply below_alloc | apply pw_below_drewN | apply below_drew1) | exact HB.out)⟩⟩
                                  · rw [if_neg c45] at H
                                    have c45b0 : decide (t163 < x7_12) = false := decide_eq_false c45
                                    clear c45
                                    have H' := Aside0.mk H
                                    clear H
                                    go_wp2
                                    go_meet
                                    case rel => exact ⟨_, (false), (by first | rfl | (simp; done) | (simp [*]; done)), H', ⟨by have := HJ5.out; have := HJ10.out; have := HJ12.out; first | omega | exact Nat.le_refl _⟩, ⟨by repeat (first | (with_reducible first | exact HB.out | apply below_alloc | apply pw_below_drewN | apply below_drew1) | exact HB.out)⟩⟩
                            · rw [if_neg c42] at H
                              have c42b0 : decide (x7_12 ≤ t163) = false := decide_eq_false c42
                              clear c42
                              (first | rw [c42b0] | (simp only [i64_w, i32_w]; rw [c42b0]) | skip)
                              by_cases c47 : x7_12 > t163
                              · rw [if_pos c47] at H
                                have c47b0 : decide (t163 < x7_12) = true := decide_eq_true c47
                                clear c47
                                by_cases c48 : t167 = t164
                                · rw [if_pos c48] at H
                                  have c48b0 : (t167 == t164) = true := beq_iff_eq.mpr c48
                                  have c48b1 : (t167 != t164) = false := bne_eq_false_iff_eq.mpr c48
                                  clear c48
                                  have H' := Aside0.mk H
                                  clear H
                                  go_wp2
                                  go_meet
                                  case rel => exact ⟨_, ((t166 == t163)), (by first | rfl | (simp; done) | (simp [*]; done)), H', ⟨by have := HJ5.out; have := HJ10.out; have := HJ12.out; first | omega | exact Nat.le_refl _⟩, ⟨by repeat (first | (with_reducible first | exact HB.out | apply below_alloc | apply pw_below_drewN | apply below_drew1) | exact HB.out)⟩⟩
                                · rw [if_neg c48] at H
                                  have c48b0 : (t167 == t164) = false := beq_eq_false_iff_ne.mpr c48
                                  have c48b1 : (t167 != t164) = true := bne_iff_ne.mpr c48
                                  have H' := Aside0.mk H
                                  clear H
                                  go_wp2
                                  go_meet
                                  case rel => exact ⟨_, (false), (by first | rfl | (simp; done) | (simp [*]; done)), H', ⟨by have := HJ5.out; have := HJ10.out; have := HJ12.out; first | omega | exact Nat.le_refl _⟩, ⟨by repeat (first | (with_reducible first | exact HB.out | apply below_alloc | apply pw_below_drewN | apply below_drew1) | exact HB.out)⟩⟩
                              · rw [if_neg c47] at H
                                have c47b0 : decide (t163 < x7_12) = false := decide_eq_false c47
                                clear c47
                                have H' := Aside0.mk H
                                clear H
                                go_wp2
                                go_meet
                                case rel => exact ⟨_, (false), (by first | rfl | (simp; done) | (simp [*]; done)), H', ⟨by have := HJ5.out; have := HJ10.out; have := HJ12.out; first | omega | exact Nat.le_refl _⟩, ⟨by repeat (first | (with_reducible first | exact HB.out | apply below_alloc | apply pw_below_drewN | apply below_drew1) | exact HB.out)⟩⟩
                          case rest =>
                            clear HC36
                            try clear c1
                            try clear p1
                            try clear q1
                            try clear hx1
                            try clear c2
                            try clear p2
                            try clear q2
                            try clear c3
                            try clear q3
                            try clear c4
                            try clear c5
                            try clear p6
                            try clear c7
                            try clear c8
                            try clear c9
                            try clear c10
                            try clear c11
                            try clear c12
                            try clear c12b0
                            try clear c14
                            try clear c14b0
                            try clear c16
                            try clear c16b0
                            try clear c16b1
                            try clear p16
                            try clear q16
                            try clear hx16
                            try clear c17
                            try clear c17b0
                            try clear c17b1
                            try clear c19
                            try clear c22
                            try clear c22b0
                            try clear c22b1
                            try clear q25
                            try clear c29
                            try clear c29b0
                            try clear c31
                            try clear c31b0
                            try clear c32
                            try clear c32b0
                            try clear c34
                            try clear c34b0
                            try clear c34b1
                            try clear c35
                            try clear c35b0
                            try clear c35b1
                            try clear q38
                            try clear c42
                            try clear c42b0
                            try clear c43
                            try clear c43b0
                            try clear c43b1
                            try clear c44
                            try clear c44b0
                            try clear c44b1
                            try clear c45
                            try clear c45b0
                            try clear c46
                            try clear c46b0
                            try clear c46b1
                            try clear c47
                            try clear c47b0
                            try clear c48
                            try clear c48b0
                            try clear c48b1
                            try clear hx168_0
                            try clear hx168_1
                            try clear hx168_2
                            try clear hx168_3
                            try clear p1
                            try clear p16
                            try clear p168
                            try clear p2
                            try clear p6
                            try clear q1
                            try clear q16
                            try clear q168
                            try clear q2
                            try clear q25
                            try clear q38
                            obtain ⟨kq, x6_35, rfl, HA, HJ35, HB⟩ := hcut
                            cases kq with
                            | zero => exact absurd HA.out (by simp [supercargolaw22_EndorseCuts.j3])
                            | succ kj35 =>
                              have H := HA.out
                              clear HA
                              simp only [supercargolaw22_EndorseCuts.j3] at H
                              obtain rfl := Option.some.inj H
                              go_wp2
                              go_ret
                              exact ⟨by first | rfl | (simp [errW_none, errW_some] <;> rfl) | (simp [*, errW_none, errW_some] <;> rfl), by repeat (first | (with_reducible first | exact HB.out | apply below_alloc | apply pw_below_drewN | apply below_drew1) | exact HB.out)⟩
                      · replace c19 := Bool.eq_false_iff.mpr c19
                        subst c19
                        have H1 : (some false) = some r := by rw [if_neg (show ¬ (false = true) by decide)] at H; exact H
                        clear H
                        have H := H1
                        clear H1
                        obtain rfl := Option.some.inj H
                        go_wp2_with (first | ((with_reducible refine gate_callee (f := 9) rfl ?_); refine goesL_ (some 36) rfl rfl Try.func9 (by kernel_rfl) rfl #[.slice A1 l1.length c1, .int .i64 a2] rfl (by (try simp only [List.map_toArray, List.map_cons, List.map_nil]); first | done | rfl | (simp only [List.length_drop, List.length_take]; rfl)) ?_; (with_reducible refine (endorse_Cut.calls _ _ l1 a2 t154 _ ?side1 ?side2 A15.out).mono ?_); (case side1 => repeat (first | exact (Kd.C_below HR1.out HB.out) | (with_reducible refine Kd.C_alloc ?_ _) | (with_reducible refine Kd.C_drewN ?_ _) | (with_reducible refine Kd.C_drew ?_))); (case side2 => exact HC1.out); rintro e w49 ⟨v155, rfl, ho0, hb⟩; refine ⟨_, rfl, ?_⟩; have n0_ := Aside0.mk (Kd.R_lower ho0 (below_size (by repeat (first | (with_reducible first | exact HB.out | apply below_alloc | apply pw_below_drewN | apply below_drew1) | exact HB.out)))); have n1_ := Aside0.mk (below_step (by repeat (first | (with_reducible first | exact HB.out | apply below_alloc | apply pw_below_drewN | apply below_drew1) | exact HB.out)) hb); clear HB; have HO156 := n0_; have HB := n1_; clear n0_ n1_; (try clear hb); (try clear hb2); (try clear hk); (try clear hi); (try clear ho0); have q50 : (x7_12 : Int) ≤ ((l1.length : Int) : Int) := of_decide_eq_true (by first | (with_reducible assumption) | assumption); obtain ⟨i050, hi050, _, hsz50, _⟩ := info_parts info31; have hroom50 : l1.length ≤ c1 := HC1.out; have hC50 : Kd.C k31 _ A1 l1.length l1 := HR1.out; have hcut50 := cut_to (P := Try.prog) 22 31 .i64 Try.underlying22 hi050 A1 l1.length c1 x7_12 (of_decide_eq_true (by first | (with_reducible assumption) | assumption)) q50 hroom50; have hr50 := Kd.C_take (m := (x7_12 : Int).toNat) hC50 (by omega); have hy50 : y157.length = (x7_12 : Int).toNat := (by rw [Ny157.out, List.length_take]; omega); rw [← Ny157.out] at hr50; rw [← hy50] at hcut50; have HR160 := Aside0.mk hr50; have HC160 := Aside0.mk (show y157.length ≤ c1 from by omega); clear hr50 hC50 hroom50 hi050 hsz50; have KY50 := Aside0.mk hy50; clear hy50; replace q50 := eq_true q50; obtain ⟨Ao51, co51, eo51⟩ := Kd.R_slice HO156.out; subst eo51) | ((with_reducible refine gate_callee (f := 10) rfl ?_); refine goesL_ (some 41) rfl rfl Try.func10 (by kernel_rfl) rfl #[.slice Ao51 t154.length co51, .slice A1 y157.length c1] rfl (by (try simp only [List.map_toArray, List.map_cons, List.map_nil]); first | done | rfl | (simp only [List.length_drop, List.length_take]; rfl)) ?_; (with_reducible refine (supercargoref22_Same.calls kj12 _ _ t154 _ _ y157 false _ ?side1 ?side2 ?side3 ?side4 A18.out).mono ?_); (case side1 => repeat (first | exact (Kd.R_reads' HO156.out).2.2 | (with_reducible refine Kd.C_alloc ?_ _) | (with_reducible refine Kd.C_drewN ?_ _) | (with_reducible refine Kd.C_drew ?_))); (case side2 => exact (Kd.R_reads' HO156.out).2.1); (case side3 => repeat (first | exact (Kd.C_below HR160.out HB.out) | (with_reducible refine Kd.C_alloc ?_ _) | (with_reducible refine Kd.C_drewN ?_ _) | (with_reducible refine Kd.C_drew ?_))); (case side4 => exact HC160.out); rintro e w' ⟨rfl, ⟨nd, rfl⟩⟩; refine ⟨_, rfl, ?_⟩))
                        go_ret
                        exact ⟨by first | rfl | (simp [errW_none, errW_some] <;> rfl) | (simp [*, errW_none, errW_some] <;> rfl), by repeat (first | (with_reducible first | exact HB.out | apply below_alloc | apply pw_below_drewN | apply below_drew1) | exact HB.out)⟩
                    · rw [if_neg c17] at H
                      exact absurd H (by simp)
                  · rw [if_neg c16] at H
                    exact absurd H (by simp)
  · replace c5 := Bool.eq_false_iff.mpr c5
    subst c5
    have H1 : (some false) = some r := by rw [if_neg (show ¬ (false = true) by decide)] at H; exact H
    clear H
    have H := H1
    clear H1
    obtain rfl := Option.some.inj H
    go_enter Try.func3, Try.ntmps3
    go_wp2_with (first | ((with_reducible refine gate_callee (f := 7) rfl ?_); refine goesL_ (some 16) rfl rfl Try.func7 (by kernel_rfl) rfl #[] rfl (by (try simp only [List.map_toArray, List.map_cons, List.map_nil]); first | done | rfl | (simp only [List.length_drop, List.length_take]; rfl)) ?_; (with_reducible refine (supercargolaw22_awake.calls k  false _ A4.out).mono ?_); rintro e w52 ⟨rfl, hb⟩; refine ⟨_, rfl, ?_⟩; have n0_ := Aside0.mk (below_step (by repeat (first | (with_reducible first | exact HB.out | apply below_alloc | apply pw_below_drewN | apply below_drew1) | exact HB.out)) hb); clear HB; have HB := n0_; clear n0_; (try clear hb); (try clear hb2); (try clear hk); (try clear hi)))
    go_ret
    exact ⟨by first | rfl | (simp [errW_none, errW_some] <;> rfl) | (simp [*, errW_none, errW_some] <;> rfl), by repeat (first | (with_reducible first | exact HB.out | apply below_alloc | apply pw_below_drewN | apply below_drew1) | exact HB.out)⟩

end Go.Proofs.Ytjmbglgchmhahaa.P
