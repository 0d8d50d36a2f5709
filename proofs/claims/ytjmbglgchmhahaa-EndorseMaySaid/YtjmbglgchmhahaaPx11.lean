-- Written by the session's own program xprint.py, which runs the kit's print over functions given by hand.
import Derived.Test.YtjmbglgchmhahaaPx0
import Derived.Test.YtjmbglgchmhahaaPx5
import Derived.Test.YtjmbglgchmhahaaPx7
import Derived.Test.YtjmbglgchmhahaaPx10
namespace Go.Proofs.Ytjmbglgchmhahaa.P
open Go.RowKit Go.Proofs.YtjmbglgchmhahaaW.PrintWords Go.Proofs.YtjmbglgchmhahaaW.PrintLast Go.Proofs.YtjmbglgchmhahaaW.PrintMore
attribute [local go_sem] max2_int min2_int max_two min_two max_three min_three max_four min_four   -- for this text's walks alone
set_option linter.unusedVariables false
set_option linter.unusedSimpArgs false

/-! ### supercargolaw22_EndorseMay: function 4 -/
mutual
def supercargolaw22_EndorseMay.j0 : Nat → ByteArray → ByteArray → ByteArray → List (S31) → Bool → Option (Bool)
  | 0, _, _, _, _, _ => none
  | k + 1, x0, x1, x2, x3, x32 => if x32 = true then (some true) else ((endorse_May.f k x0 x1 x3).bind fun t196 => ((supercargoref22_May.f k x0 x1 x3).bind fun t197 => (if (t196 != t197) = true then (some false) else ((supercargoref06_Name.f k x2).bind fun t198 => (if t198 = true then (if x2.toList = x1.toList then (supercargolaw22_EndorseMay.j1 k x0 x1 x2 x3 t196 true) else ((supercargoref06_Name.f k x1).bind fun t199 => (supercargolaw22_EndorseMay.j1 k x0 x1 x2 x3 t196 (!t199)))) else (supercargolaw22_EndorseMay.j1 k x0 x1 x2 x3 t196 true))))))
def supercargolaw22_EndorseMay.j1 : Nat → ByteArray → ByteArray → ByteArray → List (S31) → Bool → Bool → Option (Bool)
  | 0, _, _, _, _, _, _ => none
  | k + 1, x0, x1, x2, x3, x9, x55 => if x55 = true then (some true) else ((some (([] : List (S31)) : List (S31))).bind fun y201 => (if y201.length + x3.length < 2932031007402 then ((some (y201 ++ x3 : List (S31))).bind fun y204 => ((some (([(⟨x1, x2, 0, 1048576⟩ : S31)] : List (S31)) : List (S31))).bind fun y207 => (if y204.length + y207.length < 2932031007402 then ((endorse_Check.f k x0 (y204 ++ y207)).bind fun bt213 => (if x9 = true then (if bt213.1.toList = x2.toList then (if bt213.2.1 = (wrap64 ((x3.length : Int) + 1)) then (supercargolaw22_EndorseMay.j2 k (bt213.2.2 == 0)) else (supercargolaw22_EndorseMay.j2 k false)) else (supercargolaw22_EndorseMay.j2 k false)) else (if bt213.2.2 = 0 then (supercargolaw22_EndorseMay.j3 k false) else (if bt213.1.toList = ([] : List UInt8) then (supercargolaw22_EndorseMay.j3 k (decide (bt213.2.1 ≤ (x3.length : Int)))) else (supercargolaw22_EndorseMay.j3 k false))))) else (none)))) else (none)))
def supercargolaw22_EndorseMay.j2 : Nat → Bool → Option (Bool)
  | 0, _ => none
  | k + 1, x8 => some x8
def supercargolaw22_EndorseMay.j3 : Nat → Bool → Option (Bool)
  | 0, _ => none
  | k + 1, x8 => some x8
end
def supercargolaw22_EndorseMay.f (k : Nat) (a0 : ByteArray) (a1 : ByteArray) (a2 : ByteArray) (l3 : List (S31)) : Option (Bool) := (supercargolaw22_awake.f k).bind fun t194 => (if t194 = true then ((supercargoref22_Big.f k l3 30).bind fun t195 => (if t195 = true then (supercargolaw22_EndorseMay.j0 k a0 a1 a2 l3 true) else (if (a0.size : Int) > 100 then (supercargolaw22_EndorseMay.j0 k a0 a1 a2 l3 true) else (if (a1.size : Int) > 100 then (supercargolaw22_EndorseMay.j0 k a0 a1 a2 l3 true) else (supercargolaw22_EndorseMay.j0 k a0 a1 a2 l3 (decide ((a2.size : Int) > 100))))))) else (some false))
theorem supercargolaw22_EndorseMay.mono_l : ∀ k, (∀ y0 y1 y2 y3 y4, LeO (supercargolaw22_EndorseMay.j0 k y0 y1 y2 y3 y4) (supercargolaw22_EndorseMay.j0 (k + 1) y0 y1 y2 y3 y4)) ∧ (∀ y0 y1 y2 y3 y4 y5, LeO (supercargolaw22_EndorseMay.j1 k y0 y1 y2 y3 y4 y5) (supercargolaw22_EndorseMay.j1 (k + 1) y0 y1 y2 y3 y4 y5)) ∧ (∀ y0, LeO (supercargolaw22_EndorseMay.j2 k y0) (supercargolaw22_EndorseMay.j2 (k + 1) y0)) ∧ (∀ y0, LeO (supercargolaw22_EndorseMay.j3 k y0) (supercargolaw22_EndorseMay.j3 (k + 1) y0))
  | 0 => ⟨fun _ _ _ _ _ r h => by simp [supercargolaw22_EndorseMay.j0] at h, fun _ _ _ _ _ _ r h => by simp [supercargolaw22_EndorseMay.j1] at h, fun _ r h => by simp [supercargolaw22_EndorseMay.j2] at h, fun _ r h => by simp [supercargolaw22_EndorseMay.j3] at h⟩
  | k + 1 => by
    obtain ⟨ih0, ih1, ih2, ih3⟩ := supercargolaw22_EndorseMay.mono_l k
    refine ⟨?_, ?_, ?_, ?_⟩
    · intro y0 y1 y2 y3 y4
      unfold supercargolaw22_EndorseMay.j0
      repeat' first
      | (with_reducible exact ih0 _ _ _ _ _)
      | (with_reducible exact ih1 _ _ _ _ _ _)
      | (with_reducible exact ih2 _)
      | (with_reducible exact ih3 _)
      | (with_reducible exact endorse_Check.mono _ _ _)
      | (with_reducible exact endorse_May.mono _ _ _ _)
      | (with_reducible exact supercargolaw22_awake.mono _)
      | (with_reducible exact supercargoref06_Name.mono _ _)
      | (with_reducible exact supercargoref22_Big.mono _ _ _)
      | (with_reducible exact supercargoref22_May.mono _ _ _ _)
      | (with_reducible exact LeO.refl _)
      | (with_reducible exact LeO.none _)
      | (with_reducible refine LeO.ite ?_ ?_)
      | (with_reducible refine LeO.bind ?_ (fun _ => ?_))
      | exact ih0 _ _ _ _ _
      | exact ih1 _ _ _ _ _ _
      | exact ih2 _
      | exact ih3 _
      | exact endorse_Check.mono _ _ _
      | exact endorse_May.mono _ _ _ _
      | exact supercargolaw22_awake.mono _
      | exact supercargoref06_Name.mono _ _
      | exact supercargoref22_Big.mono _ _ _
      | exact supercargoref22_May.mono _ _ _ _
      | exact LeO.none _
      | refine LeO.ite ?_ ?_
      | refine LeO.bind ?_ (fun _ => ?_)
    · intro y0 y1 y2 y3 y4 y5
      unfold supercargolaw22_EndorseMay.j1
      repeat' first
      | (with_reducible exact ih0 _ _ _ _ _)
      | (with_reducible exact ih1 _ _ _ _ _ _)
      | (with_reducible exact ih2 _)
      | (with_reducible exact ih3 _)
      | (with_reducible exact endorse_Check.mono _ _ _)
      | (with_reducible exact endorse_May.mono _ _ _ _)
      | (with_reducible exact supercargolaw22_awake.mono _)
      | (with_reducible exact supercargoref06_Name.mono _ _)
      | (with_reducible exact supercargoref22_Big.mono _ _ _)
      | (with_reducible exact supercargoref22_May.mono _ _ _ _)
      | (with_reducible exact LeO.refl _)
      | (with_reducible exact LeO.none _)
      | (with_reducible refine LeO.ite ?_ ?_)
      | (with_reducible refine LeO.bind ?_ (fun _ => ?_))
      | exact ih0 _ _ _ _ _
      | exact ih1 _ _ _ _ _ _
      | exact ih2 _
      | exact ih3 _
      | exact endorse_Check.mono _ _ _
      | exact endorse_May.mono _ _ _ _
      | exact supercargolaw22_awake.mono _
      | exact supercargoref06_Name.mono _ _
      | exact supercargoref22_Big.mono _ _ _
      | exact supercargoref22_May.mono _ _ _ _
      | exact LeO.none _
      | refine LeO.ite ?_ ?_
      | refine LeO.bind ?_ (fun _ => ?_)
    · intro y0
      unfold supercargolaw22_EndorseMay.j2
      repeat' first
      | (with_reducible exact ih0 _ _ _ _ _)
      | (with_reducible exact ih1 _ _ _ _ _ _)
      | (with_reducible exact ih2 _)
      | (with_reducible exact ih3 _)
      | (with_reducible exact endorse_Check.mono _ _ _)
      | (with_reducible exact endorse_May.mono _ _ _ _)
      | (with_reducible exact supercargolaw22_awake.mono _)
      | (with_reducible exact supercargoref06_Name.mono _ _)
      | (with_reducible exact supercargoref22_Big.mono _ _ _)
      | (with_reducible exact supercargoref22_May.mono _ _ _ _)
      | (with_reducible exact LeO.refl _)
      | (with_reducible exact LeO.none _)
      | (with_reducible refine LeO.ite ?_ ?_)
      | (with_reducible refine LeO.bind ?_ (fun _ => ?_))
      | exact ih0 _ _ _ _ _
      | exact ih1 _ _ _ _ _ _
      | exact ih2 _
      | exact ih3 _
      | exact endorse_Check.mono _ _ _
      | exact endorse_May.mono _ _ _ _
      | exact supercargolaw22_awake.mono _
      | exact supercargoref06_Name.mono _ _
      | exact supercargoref22_Big.mono _ _ _
      | exact supercargoref22_May.mono _ _ _ _
      | exact LeO.none _
      | refine LeO.ite ?_ ?_
      | refine LeO.bind ?_ (fun _ => ?_)
    · intro y0
      unfold supercargolaw22_EndorseMay.j3
      repeat' first
      | (with_reducible exact ih0 _ _ _ _ _)
      | (with_reducible exact ih1 _ _ _ _ _ _)
      | (with_reducible exact ih2 _)
      | (with_reducible exact ih3 _)
      | (with_reducible exact endorse_Check.mono _ _ _)
      | (with_reducible exact endorse_May.mono _ _ _ _)
      | (with_reducible exact supercargolaw22_awake.mono _)
      | (with_reducible exact supercargoref06_Name.mono _ _)
      | (with_reducible exact supercargoref22_Big.mono _ _ _)
      | (with_reducible exact supercargoref22_May.mono _ _ _ _)
      | (with_reducible exact LeO.refl _)
      | (with_reducible exact LeO.none _)
      | (with_reducible refine LeO.ite ?_ ?_)
      | (with_reducible refine LeO.bind ?_ (fun _ => ?_))
      | exact ih0 _ _ _ _ _
      | exact ih1 _ _ _ _ _ _
      | exact ih2 _
      | exact ih3 _
      | exact endorse_Check.mono _ _ _
      | exact endorse_May.mono _ _ _ _
      | exact supercargolaw22_awake.mono _
      | exact supercargoref06_Name.mono _ _
      | exact supercargoref22_Big.mono _ _ _
      | exact supercargoref22_May.mono _ _ _ _
      | exact LeO.none _
      | refine LeO.ite ?_ ?_
      | refine LeO.bind ?_ (fun _ => ?_)
theorem supercargolaw22_EndorseMay.mono : ∀ a0 a1 a2 a3 k, LeO (supercargolaw22_EndorseMay.f k a0 a1 a2 a3) (supercargolaw22_EndorseMay.f (k + 1) a0 a1 a2 a3) := by
  intro a0 a1 a2 a3 k
  obtain ⟨ih0, ih1, ih2, ih3⟩ := supercargolaw22_EndorseMay.mono_l k
  unfold supercargolaw22_EndorseMay.f
  repeat' first
      | (with_reducible exact ih0 _ _ _ _ _)
      | (with_reducible exact ih1 _ _ _ _ _ _)
      | (with_reducible exact ih2 _)
      | (with_reducible exact ih3 _)
      | (with_reducible exact endorse_Check.mono _ _ _)
      | (with_reducible exact endorse_May.mono _ _ _ _)
      | (with_reducible exact supercargolaw22_awake.mono _)
      | (with_reducible exact supercargoref06_Name.mono _ _)
      | (with_reducible exact supercargoref22_Big.mono _ _ _)
      | (with_reducible exact supercargoref22_May.mono _ _ _ _)
      | (with_reducible exact LeO.refl _)
      | (with_reducible exact LeO.none _)
      | (with_reducible refine LeO.ite ?_ ?_)
      | (with_reducible refine LeO.bind ?_ (fun _ => ?_))
      | exact ih0 _ _ _ _ _
      | exact ih1 _ _ _ _ _ _
      | exact ih2 _
      | exact ih3 _
      | exact endorse_Check.mono _ _ _
      | exact endorse_May.mono _ _ _ _
      | exact supercargolaw22_awake.mono _
      | exact supercargoref06_Name.mono _ _
      | exact supercargoref22_Big.mono _ _ _
      | exact supercargoref22_May.mono _ _ _ _
      | exact LeO.none _
      | refine LeO.ite ?_ ?_
      | refine LeO.bind ?_ (fun _ => ?_)
def supercargolaw22_EndorseMay.T11 : Bool × List (List Nat × List Nat) := (true, [([], []), ([], []), ([], []), ([1, 2], [1, 2]), ([], []), ([4], [4]), ([3, 5, 3], [3, 5]), ([0, 6, 6], [0, 6]), ([7], [7]), ([8], [8]), ([8], [8]), ([8], [8]), ([9, 7, 0, 1, 2, 3, 4, 5, 6, 7, 8, 9], [9]), ([10, 12, 0, 1, 2, 3, 4, 5, 6, 7, 8, 9, 10, 12], [10]), ([11, 13, 0, 1, 2, 3, 4, 5, 6, 7, 8, 9, 10, 11, 12, 13], [11])])
def supercargolaw22_EndorseMay.B11 : List Nat := [0, 0, 0, 6, 0, 16, 62, 127, 255, 511, 511, 511, 1023, 6143, 16383]
theorem supercargolaw22_EndorseMay.tab11 : rtab .any (opsOf Try.f4 11) = supercargolaw22_EndorseMay.T11 := by kernel_rfl
theorem supercargolaw22_EndorseMay.bits11 : waitsOk supercargolaw22_EndorseMay.T11.2 supercargolaw22_EndorseMay.B11 = true := by kernel_rfl
set_option maxHeartbeats 8000000 in
set_option maxRecDepth 100000 in
theorem supercargolaw22_EndorseMay.calls (k : Nat) (a0 : ByteArray) (a1 : ByteArray) (a2 : ByteArray) (A3 : Option Addr) (c3 : Nat) (l3 : List (S31)) (r : Bool) (w : World) (hr3 : Kd.C k31 w A3 l3.length l3) (hc3 : l3.length ≤ c3) (h : supercargolaw22_EndorseMay.f k a0 a1 a2 l3 = some r) :
    Calls Try.prog 4 #[.string a0, .string a1, .string a2, .slice A3 l3.length c3] w fun e w' => e = .returned (.bool r) ∧ Below w.heap.size w w' := by
  have hu31 := Try.underlying31
  have HR3 := Aside0.mk hr3
  have HC3 := Aside0.mk hc3
  clear hr3 hc3
  have HB := Aside0.mk (Below.refl w.heap.size w)
  have H : ((supercargolaw22_awake.f k).bind fun t194 => (if t194 = true then ((supercargoref22_Big.f k l3 30).bind fun t195 => (if t195 = true then (supercargolaw22_EndorseMay.j0 k a0 a1 a2 l3 true) else (if (a0.size : Int) > 100 then (supercargolaw22_EndorseMay.j0 k a0 a1 a2 l3 true) else (if (a1.size : Int) > 100 then (supercargolaw22_EndorseMay.j0 k a0 a1 a2 l3 true) else (supercargolaw22_EndorseMay.j0 k a0 a1 a2 l3 (decide ((a2.size : Int) > 100))))))) else (some false))) = some r := h
  clear h
  replace H := Option.bind_eq_some_iff.mp H
  obtain ⟨t194, A50, H⟩ := H
  replace H : (if t194 = true then ((supercargoref22_Big.f k l3 30).bind fun t195 => (if t195 = true then (supercargolaw22_EndorseMay.j0 k a0 a1 a2 l3 true) else (if (a0.size : Int) > 100 then (supercargolaw22_EndorseMay.j0 k a0 a1 a2 l3 true) else (if (a1.size : Int) > 100 then (supercargolaw22_EndorseMay.j0 k a0 a1 a2 l3 true) else (supercargolaw22_EndorseMay.j0 k a0 a1 a2 l3 (decide ((a2.size : Int) > 100))))))) else (some false)) = some r := H
  have A5 := Aside0.mk A50
  clear A50
  by_cases c6 : t194 = true
  · subst c6
    have H1 : ((supercargoref22_Big.f k l3 30).bind fun t195 => (if t195 = true then (supercargolaw22_EndorseMay.j0 k a0 a1 a2 l3 true) else (if (a0.size : Int) > 100 then (supercargolaw22_EndorseMay.j0 k a0 a1 a2 l3 true) else (if (a1.size : Int) > 100 then (supercargolaw22_EndorseMay.j0 k a0 a1 a2 l3 true) else (supercargolaw22_EndorseMay.j0 k a0 a1 a2 l3 (decide ((a2.size : Int) > 100))))))) = some r := by rw [if_pos rfl] at H; exact H
    clear H
    have H := H1
    clear H1
    have HC7 := Aside0.mk H
    clear H
    go_enter Try.func4, Try.ntmps4
    go_upto_region 3 with (first | ((with_reducible refine gate_callee (f := 7) rfl ?_); refine goesL_ (some 14) rfl rfl Try.func7 (by kernel_rfl) rfl #[] rfl (by (try simp only [List.map_toArray, List.map_cons, List.map_nil]); first | done | rfl | (simp only [List.length_drop, List.length_take]; rfl)) ?_; (with_reducible refine (supercargolaw22_awake.calls k  true _ A5.out).mono ?_); rintro e w8 ⟨rfl, hb⟩; refine ⟨_, rfl, ?_⟩; have n0_ := Aside0.mk (below_step (by repeat (first | (with_reducible first | exact HB.out | apply below_alloc | apply pw_below_drewN | apply below_drew1) | exact HB.out)) hb); clear HB; have HB := n0_; clear n0_; (try clear hb); (try clear hb2); (try clear hk); (try clear hi)))
    (try simp only [Act.put, List.setIfInBounds_toArray, List.set_cons_zero, List.set_cons_succ])
    go_cut [32] (fun v32 wc => ∃ (kq : Nat) (x32_6 : Bool), v32 = .bool x32_6 ∧ Aside0 (supercargolaw22_EndorseMay.j0 kq a0 a1 a2 l3 x32_6 = some r) ∧ Aside0 (kq ≤ k) ∧ Aside0 (Below w.heap.size w wc))
    case first =>
      have H := HC7.out
      clear HC7
      replace H := Option.bind_eq_some_iff.mp H
      obtain ⟨t195, A90, H⟩ := H
      replace H : (if t195 = true then (supercargolaw22_EndorseMay.j0 k a0 a1 a2 l3 true) else (if (a0.size : Int) > 100 then (supercargolaw22_EndorseMay.j0 k a0 a1 a2 l3 true) else (if (a1.size : Int) > 100 then (supercargolaw22_EndorseMay.j0 k a0 a1 a2 l3 true) else (supercargolaw22_EndorseMay.j0 k a0 a1 a2 l3 (decide ((a2.size : Int) > 100)))))) = some r := H
      have A9 := Aside0.mk A90
      clear A90
      by_cases c10 : t195 = true
      · subst c10
        have H1 : (supercargolaw22_EndorseMay.j0 k a0 a1 a2 l3 true) = some r := by rw [if_pos rfl] at H; exact H
        clear H
        have H := H1
        clear H1
        have H' := Aside0.mk H
        clear H
        go_wp2_with (first | ((with_reducible refine gate_callee (f := 8) rfl ?_); refine goesL_ (some 17) rfl rfl Try.func8 (by kernel_rfl) rfl #[.slice A3 l3.length c3, .int .i64 30] rfl (by (try simp only [List.map_toArray, List.map_cons, List.map_nil]); first | done | rfl | (simp only [List.length_drop, List.length_take]; rfl)) ?_; (with_reducible refine (supercargoref22_Big.calls k _ _ l3 30 true _ ?side1 ?side2 A9.out).mono ?_); (case side1 => repeat (first | exact (Kd.C_below HR3.out HB.out) | (with_reducible refine Kd.C_alloc ?_ _) | (with_reducible refine Kd.C_drewN ?_ _) | (with_reducible refine Kd.C_drew ?_))); (case side2 => exact HC3.out); rintro e w' ⟨rfl, ⟨nd, rfl⟩⟩; refine ⟨_, rfl, ?_⟩))
        go_meet
        case rel => exact ⟨_, (true), (by first | rfl | (simp; done) | (simp [*]; done)), H', ⟨by first | omega | exact Nat.le_refl _⟩, ⟨by repeat (first | (with_reducible first | exact HB.out | apply below_alloc | apply pw_below_drewN | apply below_drew1) | exact HB.out)⟩⟩
      · replace c10 := Bool.eq_false_iff.mpr c10
        subst c10
        have H1 : (if (a0.size : Int) > 100 then (supercargolaw22_EndorseMay.j0 k a0 a1 a2 l3 true) else (if (a1.size : Int) > 100 then (supercargolaw22_EndorseMay.j0 k a0 a1 a2 l3 true) else (supercargolaw22_EndorseMay.j0 k a0 a1 a2 l3 (decide ((a2.size : Int) > 100))))) = some r := by rw [if_neg (show ¬ (false = true) by decide)] at H; exact H
        clear H
        have H := H1
        clear H1
        by_cases c11 : (a0.size : Int) > 100
        · rw [if_pos c11] at H
          have c11b0 : decide (100 < (a0.size : Int)) = true := decide_eq_true c11
          have c11b1 : decide (100 < a0.size) = true := decide_eq_true (by omega)
          clear c11
          (first | rw [c11b0] | (simp only [i64_w, i32_w]; rw [c11b0]) | skip)
          have H' := Aside0.mk H
          clear H
          go_wp2_with (first | ((with_reducible refine gate_callee (f := 8) rfl ?_); refine goesL_ (some 17) rfl rfl Try.func8 (by kernel_rfl) rfl #[.slice A3 l3.length c3, .int .i64 30] rfl (by (try simp only [List.map_toArray, List.map_cons, List.map_nil]); first | done | rfl | (simp only [List.length_drop, List.length_take]; rfl)) ?_; (with_reducible refine (supercargoref22_Big.calls k _ _ l3 30 false _ ?side1 ?side2 A9.out).mono ?_); (case side1 => repeat (first | exact (Kd.C_below HR3.out HB.out) | (with_reducible refine Kd.C_alloc ?_ _) | (with_reducible refine Kd.C_drewN ?_ _) | (with_reducible refine Kd.C_drew ?_))); (case side2 => exact HC3.out); rintro e w' ⟨rfl, ⟨nd, rfl⟩⟩; refine ⟨_, rfl, ?_⟩))
          go_meet
          case rel => exact ⟨_, (true), (by first | rfl | (simp; done) | (simp [*]; done)), H', ⟨by first | omega | exact Nat.le_refl _⟩, ⟨by repeat (first | (with_reducible first | exact HB.out | apply below_alloc | apply pw_below_drewN | apply below_drew1) | exact HB.out)⟩⟩
        · rw [if_neg c11] at H
          have c11b0 : decide (100 < (a0.size : Int)) = false := decide_eq_false c11
          have c11b1 : decide (100 < a0.size) = false := decide_eq_false (by omega)
          clear c11
          (first | rw [c11b0] | (simp only [i64_w, i32_w]; rw [c11b0]) | skip)
          by_cases c12 : (a1.size : Int) > 100
          · rw [if_pos c12] at H
            have c12b0 : decide (100 < (a1.size : Int)) = true := decide_eq_true c12
            have c12b1 : decide (100 < a1.size) = true := decide_eq_true (by omega)
            clear c12
            have H' := Aside0.mk H
            clear H
            go_wp2_with (first | ((with_reducible refine gate_callee (f := 8) rfl ?_); refine goesL_ (some 17) rfl rfl Try.func8 (by kernel_rfl) rfl #[.slice A3 l3.length c3, .int .i64 30] rfl (by (try simp only [List.map_toArray, List.map_cons, List.map_nil]); first | done | rfl | (simp only [List.length_drop, List.length_take]; rfl)) ?_; (with_reducible refine (supercargoref22_Big.calls k _ _ l3 30 false _ ?side1 ?side2 A9.out).mono ?_); (case side1 => repeat (first | exact (Kd.C_below HR3.out HB.out) | (with_reducible refine Kd.C_alloc ?_ _) | (with_reducible refine Kd.C_drewN ?_ _) | (with_reducible refine Kd.C_drew ?_))); (case side2 => exact HC3.out); rintro e w' ⟨rfl, ⟨nd, rfl⟩⟩; refine ⟨_, rfl, ?_⟩))
            go_meet
            case rel => exact ⟨_, (true), (by first | rfl | (simp; done) | (simp [*]; done)), H', ⟨by first | omega | exact Nat.le_refl _⟩, ⟨by repeat (first | (with_reducible first | exact HB.out | apply below_alloc | apply pw_below_drewN | apply below_drew1) | exact HB.out)⟩⟩
          · rw [if_neg c12] at H
            have c12b0 : decide (100 < (a1.size : Int)) = false := decide_eq_false c12
            have c12b1 : decide (100 < a1.size) = false := decide_eq_false (by omega)
            clear c12
            have H' := Aside0.mk H
            clear H
            go_wp2_with (first | ((with_reducible refine gate_callee (f := 8) rfl ?_); refine goesL_ (some 17) rfl rfl Try.func8 (by kernel_rfl) rfl #[.slice A3 l3.length c3, .int .i64 30] rfl (by (try simp only [List.map_toArray, List.map_cons, List.map_nil]); first | done | rfl | (simp only [List.length_drop, List.length_take]; rfl)) ?_; (with_reducible refine (supercargoref22_Big.calls k _ _ l3 30 false _ ?side1 ?side2 A9.out).mono ?_); (case side1 => repeat (first | exact (Kd.C_below HR3.out HB.out) | (with_reducible refine Kd.C_alloc ?_ _) | (with_reducible refine Kd.C_drewN ?_ _) | (with_reducible refine Kd.C_drew ?_))); (case side2 => exact HC3.out); rintro e w' ⟨rfl, ⟨nd, rfl⟩⟩; refine ⟨_, rfl, ?_⟩))
            go_meet
            case rel => exact ⟨_, (decide ((a2.size : Int) > 100)), (by first | rfl | (simp; done) | (simp [*]; done)), H', ⟨by first | omega | exact Nat.le_refl _⟩, ⟨by repeat (first | (with_reducible first | exact HB.out | apply below_alloc | apply pw_below_drewN | apply below_drew1) | exact HB.out)⟩⟩
    case rest =>
      clear HC7
      try clear c1
      try clear p2
      try clear c3
      try clear c4
      try clear c6
      try clear c7
      try clear c8
      try clear c10
      try clear c11
      try clear c11b0
      try clear c11b1
      try clear c12
      try clear c12b0
      try clear c12b1
      obtain ⟨kq, x32_6, rfl, HA, HJ6, HB⟩ := hcut
      cases kq with
      | zero => exact absurd HA.out (by simp [supercargolaw22_EndorseMay.j0])
      | succ kj6 =>
        have H := HA.out
        clear HA
        simp only [supercargolaw22_EndorseMay.j0] at H
        by_cases c13 : x32_6 = true
        · subst c13
          have H1 : (some true) = some r := by rw [if_pos rfl] at H; exact H
          clear H
          have H := H1
          clear H1
          obtain rfl := Option.some.inj H
          go_wp2
          go_ret
          exact ⟨by first | rfl | (simp [errW_none, errW_some] <;> rfl) | (simp [*, errW_none, errW_some] <;> rfl), by repeat (first | (with_reducible first | exact HB.out | apply below_alloc | apply pw_below_drewN | apply below_drew1) | exact HB.out)⟩
        · replace c13 := Bool.eq_false_iff.mpr c13
          subst c13
          have H1 : ((endorse_May.f kj6 a0 a1 l3).bind fun t196 => ((supercargoref22_May.f kj6 a0 a1 l3).bind fun t197 => (if (t196 != t197) = true then (some false) else ((supercargoref06_Name.f kj6 a2).bind fun t198 => (if t198 = true then (if a2.toList = a1.toList then (supercargolaw22_EndorseMay.j1 kj6 a0 a1 a2 l3 t196 true) else ((supercargoref06_Name.f kj6 a1).bind fun t199 => (supercargolaw22_EndorseMay.j1 kj6 a0 a1 a2 l3 t196 (!t199)))) else (supercargolaw22_EndorseMay.j1 kj6 a0 a1 a2 l3 t196 true)))))) = some r := by rw [if_neg (show ¬ (false = true) by decide)] at H; exact H
          clear H
          have H := H1
          clear H1
          replace H := Option.bind_eq_some_iff.mp H
          obtain ⟨t196, A140, H⟩ := H
          replace H : ((supercargoref22_May.f kj6 a0 a1 l3).bind fun t197 => (if (t196 != t197) = true then (some false) else ((supercargoref06_Name.f kj6 a2).bind fun t198 => (if t198 = true then (if a2.toList = a1.toList then (supercargolaw22_EndorseMay.j1 kj6 a0 a1 a2 l3 t196 true) else ((supercargoref06_Name.f kj6 a1).bind fun t199 => (supercargolaw22_EndorseMay.j1 kj6 a0 a1 a2 l3 t196 (!t199)))) else (supercargolaw22_EndorseMay.j1 kj6 a0 a1 a2 l3 t196 true))))) = some r := H
          have A14 := Aside0.mk A140
          clear A140
          replace H := Option.bind_eq_some_iff.mp H
          obtain ⟨t197, A150, H⟩ := H
          replace H : (if (t196 != t197) = true then (some false) else ((supercargoref06_Name.f kj6 a2).bind fun t198 => (if t198 = true then (if a2.toList = a1.toList then (supercargolaw22_EndorseMay.j1 kj6 a0 a1 a2 l3 t196 true) else ((supercargoref06_Name.f kj6 a1).bind fun t199 => (supercargolaw22_EndorseMay.j1 kj6 a0 a1 a2 l3 t196 (!t199)))) else (supercargolaw22_EndorseMay.j1 kj6 a0 a1 a2 l3 t196 true)))) = some r := H
          have A15 := Aside0.mk A150
          clear A150
          by_cases c16 : (t196 != t197) = true
          · rw [if_pos c16] at H
            have c16b0 : (t196 != t197) = true := c16
            (try (have c16b1 : decide (t196 = t197) = false := by simpa using c16))
            (try (have c16b2 : (t196 == t197) = false := by simpa using c16))
            (try (have c16b3 : ¬ (t196 = t197) := by simpa using c16))
            clear c16
            obtain rfl := Option.some.inj H
            go_wp2_with (first | ((with_reducible refine gate_callee (f := 12) rfl ?_); refine goesL_ (some 36) rfl rfl Try.func12 (by kernel_rfl) rfl #[.string a0, .string a1, .slice A3 l3.length c3] rfl (by (try simp only [List.map_toArray, List.map_cons, List.map_nil]); first | done | rfl | (simp only [List.length_drop, List.length_take]; rfl)) ?_; (with_reducible refine (endorse_May.calls kj6 a0 a1 _ _ l3 t196 _ ?side1 ?side2 A14.out).mono ?_); (case side1 => repeat (first | exact (Kd.C_below HR3.out HB.out) | (with_reducible refine Kd.C_alloc ?_ _) | (with_reducible refine Kd.C_drewN ?_ _) | (with_reducible refine Kd.C_drew ?_))); (case side2 => exact HC3.out); rintro e w17 ⟨rfl, hb⟩; refine ⟨_, rfl, ?_⟩; have n0_ := Aside0.mk (below_step (by repeat (first | (with_reducible first | exact HB.out | apply below_alloc | apply pw_below_drewN | apply below_drew1) | exact HB.out)) hb); clear HB; have HB := n0_; clear n0_; (try clear hb); (try clear hb2); (try clear hk); (try clear hi)) | ((with_reducible refine gate_callee (f := 13) rfl ?_); refine goesL_ (some 41) rfl rfl Try.func13 (by kernel_rfl) rfl #[.string a0, .string a1, .slice A3 l3.length c3] rfl (by (try simp only [List.map_toArray, List.map_cons, List.map_nil]); first | done | rfl | (simp only [List.length_drop, List.length_take]; rfl)) ?_; (with_reducible refine (supercargoref22_May.calls kj6 a0 a1 _ _ l3 t197 _ ?side1 ?side2 A15.out).mono ?_); (case side1 => repeat (first | exact (Kd.C_below HR3.out HB.out) | (with_reducible refine Kd.C_alloc ?_ _) | (with_reducible refine Kd.C_drewN ?_ _) | (with_reducible refine Kd.C_drew ?_))); (case side2 => exact HC3.out); rintro e w18 ⟨rfl, hb⟩; refine ⟨_, rfl, ?_⟩; have n0_ := Aside0.mk (below_step (by repeat (first | (with_reducible first | exact HB.out | apply below_alloc | apply pw_below_drewN | apply below_drew1) | exact HB.out)) hb); clear HB; have HB := n0_; clear n0_; (try clear hb); (try clear hb2); (try clear hk); (try clear hi)))
            go_ret
            exact ⟨by first | rfl | (simp [errW_none, errW_some] <;> rfl) | (simp [*, errW_none, errW_some] <;> rfl), by repeat (first | (with_reducible first | exact HB.out | apply below_alloc | apply pw_below_drewN | apply below_drew1) | exact HB.out)⟩
          · rw [if_neg c16] at H
            have c16b0 : (t196 != t197) = false := by simpa using c16
            (try (have c16b1 : decide (t196 = t197) = true := by simpa using c16))
            (try (have c16b2 : (t196 == t197) = true := by simpa using c16))
            clear c16
            have HC19 := Aside0.mk H
            clear H
            go_upto_region 8 with (first | ((with_reducible refine gate_callee (f := 12) rfl ?_); refine goesL_ (some 36) rfl rfl Try.func12 (by kernel_rfl) rfl #[.string a0, .string a1, .slice A3 l3.length c3] rfl (by (try simp only [List.map_toArray, List.map_cons, List.map_nil]); first | done | rfl | (simp only [List.length_drop, List.length_take]; rfl)) ?_; (with_reducible refine (endorse_May.calls kj6 a0 a1 _ _ l3 t196 _ ?side1 ?side2 A14.out).mono ?_); (case side1 => repeat (first | exact (Kd.C_below HR3.out HB.out) | (with_reducible refine Kd.C_alloc ?_ _) | (with_reducible refine Kd.C_drewN ?_ _) | (with_reducible refine Kd.C_drew ?_))); (case side2 => exact HC3.out); rintro e w20 ⟨rfl, hb⟩; refine ⟨_, rfl, ?_⟩; have n0_ := Aside0.mk (below_step (by repeat (first | (with_reducible first | exact HB.out | apply below_alloc | apply pw_below_drewN | apply below_drew1) | exact HB.out)) hb); clear HB; have HB := n0_; clear n0_; (try clear hb); (try clear hb2); (try clear hk); (try clear hi)) | ((with_reducible refine gate_callee (f := 13) rfl ?_); refine goesL_ (some 41) rfl rfl Try.func13 (by kernel_rfl) rfl #[.string a0, .string a1, .slice A3 l3.length c3] rfl (by (try simp only [List.map_toArray, List.map_cons, List.map_nil]); first | done | rfl | (simp only [List.length_drop, List.length_take]; rfl)) ?_; (with_reducible refine (supercargoref22_May.calls kj6 a0 a1 _ _ l3 t197 _ ?side1 ?side2 A15.out).mono ?_); (case side1 => repeat (first | exact (Kd.C_below HR3.out HB.out) | (with_reducible refine Kd.C_alloc ?_ _) | (with_reducible refine Kd.C_drewN ?_ _) | (with_reducible refine Kd.C_drew ?_))); (case side2 => exact HC3.out); rintro e w21 ⟨rfl, hb⟩; refine ⟨_, rfl, ?_⟩; have n0_ := Aside0.mk (below_step (by repeat (first | (with_reducible first | exact HB.out | apply below_alloc | apply pw_below_drewN | apply below_drew1) | exact HB.out)) hb); clear HB; have HB := n0_; clear n0_; (try clear hb); (try clear hb2); (try clear hk); (try clear hi)))
            (try simp only [Act.put, List.setIfInBounds_toArray, List.set_cons_zero, List.set_cons_succ])
            go_cut [55] (fun v55 wc => ∃ (kq : Nat) (x55_18 : Bool), v55 = .bool x55_18 ∧ Aside0 (supercargolaw22_EndorseMay.j1 kq a0 a1 a2 l3 t196 x55_18 = some r) ∧ Aside0 (kq ≤ kj6) ∧ Aside0 (Below w.heap.size w wc))
            case first =>
              have H := HC19.out
              clear HC19
              replace H := Option.bind_eq_some_iff.mp H
              obtain ⟨t198, A220, H⟩ := H
              replace H : (if t198 = true then (if a2.toList = a1.toList then (supercargolaw22_EndorseMay.j1 kj6 a0 a1 a2 l3 t196 true) else ((supercargoref06_Name.f kj6 a1).bind fun t199 => (supercargolaw22_EndorseMay.j1 kj6 a0 a1 a2 l3 t196 (!t199)))) else (supercargolaw22_EndorseMay.j1 kj6 a0 a1 a2 l3 t196 true)) = some r := H
              have A22 := Aside0.mk A220
              clear A220
              by_cases c23 : t198 = true
              · subst c23
                have H1 : (if a2.toList = a1.toList then (supercargolaw22_EndorseMay.j1 kj6 a0 a1 a2 l3 t196 true) else ((supercargoref06_Name.f kj6 a1).bind fun t199 => (supercargolaw22_EndorseMay.j1 kj6 a0 a1 a2 l3 t196 (!t199)))) = some r := by rw [if_pos rfl] at H; exact H
                clear H
                have H := H1
                clear H1
                by_cases c24 : a2.toList = a1.toList
                · rw [if_pos c24] at H
                  have c24b0 : (a2.toList == a1.toList) = true := beq_iff_eq.mpr c24
                  have c24b1 : (a2.toList != a1.toList) = false := bne_eq_false_iff_eq.mpr c24
                  clear c24
                  (first | rw [c24b0] | (simp only [i64_w, i32_w]; rw [c24b0]) | skip)
                  have H' := Aside0.mk H
                  clear H
                  go_wp2_with (first | ((with_reducible refine gate_callee (f := 14) rfl ?_); refine goesL_ (some 44) rfl rfl Try.func14 (by kernel_rfl) rfl #[.string a2] rfl (by (try simp only [List.map_toArray, List.map_cons, List.map_nil]); first | done | rfl | (simp only [List.length_drop, List.length_take]; rfl)) ?_; (with_reducible refine (supercargoref06_Name.calls kj6 a2 true _ A22.out).mono ?_); rintro e w' ⟨rfl, ⟨nd, rfl⟩⟩; refine ⟨_, rfl, ?_⟩))
                  go_meet
                  case rel => exact ⟨_, (true), (by first | rfl | (simp; done) | (simp [*]; done)), H', ⟨by have := HJ6.out; first | omega | exact Nat.le_refl _⟩, ⟨by repeat (first | (with_reducible first | exact HB.out | apply below_alloc | apply pw_below_drewN | apply below_drew1) | exact HB.out)⟩⟩
                · rw [if_neg c24] at H
                  have c24b0 : (a2.toList == a1.toList) = false := beq_eq_false_iff_ne.mpr c24
                  have c24b1 : (a2.toList != a1.toList) = true := bne_iff_ne.mpr c24
                  (first | rw [c24b0] | (simp only [i64_w, i32_w]; rw [c24b0]) | skip)
                  replace H := Option.bind_eq_some_iff.mp H
                  obtain ⟨t199, A250, H⟩ := H
                  replace H : (supercargolaw22_EndorseMay.j1 kj6 a0 a1 a2 l3 t196 (!t199)) = some r := H
                  have A25 := Aside0.mk A250
                  clear A250
                  have H' := Aside0.mk H
                  clear H
                  go_wp2_with (first | ((with_reducible refine gate_callee (f := 14) rfl ?_); refine goesL_ (some 44) rfl rfl Try.func14 (by kernel_rfl) rfl #[.string a2] rfl (by (try simp only [List.map_toArray, List.map_cons, List.map_nil]); first | done | rfl | (simp only [List.length_drop, List.length_take]; rfl)) ?_; (with_reducible refine (supercargoref06_Name.calls kj6 a2 true _ A22.out).mono ?_); rintro e w' ⟨rfl, ⟨nd, rfl⟩⟩; refine ⟨_, rfl, ?_⟩) | (go_at_call 14; (with_reducible refine (supercargoref06_Name.calls kj6 a1 t199 _ A25.out).mono ?_); rintro e w' ⟨rfl, ⟨nd, rfl⟩⟩))
                  go_meet
                  case rel => exact ⟨_, (!t199), (by first | rfl | (simp; done) | (simp [*]; done)), H', ⟨by have := HJ6.out; first | omega | exact Nat.le_refl _⟩, ⟨by repeat (first | (with_reducible first | exact HB.out | apply below_alloc | apply pw_below_drewN | apply below_drew1) | exact HB.out)⟩⟩
              · replace c23 := Bool.eq_false_iff.mpr c23
                subst c23
                have H1 : (supercargolaw22_EndorseMay.j1 kj6 a0 a1 a2 l3 t196 true) = some r := by rw [if_neg (show ¬ (false = true) by decide)] at H; exact H
                clear H
                have H := H1
                clear H1
                have H' := Aside0.mk H
                clear H
                go_wp2_with (first | ((with_reducible refine gate_callee (f := 14) rfl ?_); refine goesL_ (some 44) rfl rfl Try.func14 (by kernel_rfl) rfl #[.string a2] rfl (by (try simp only [List.map_toArray, List.map_cons, List.map_nil]); first | done | rfl | (simp only [List.length_drop, List.length_take]; rfl)) ?_; (with_reducible refine (supercargoref06_Name.calls kj6 a2 false _ A22.out).mono ?_); rintro e w' ⟨rfl, ⟨nd, rfl⟩⟩; refine ⟨_, rfl, ?_⟩))
                go_meet
                case rel => exact ⟨_, (true), (by first | rfl | (simp; done) | (simp [*]; done)), H', ⟨by have := HJ6.out; first | omega | exact Nat.le_refl _⟩, ⟨by repeat (first | (with_reducible first | exact HB.out | apply below_alloc | apply pw_below_drewN | apply below_drew1) | exact HB.out)⟩⟩
            case rest =>
              clear HC19
              try clear c1
              try clear c2
              try clear p2
              try clear c3
              try clear c4
              try clear c6
              try clear c7
              try clear c8
              try clear c10
              try clear c11
              try clear c11b0
              try clear c11b1
              try clear c12
              try clear c12b0
              try clear c12b1
              try clear c13
              try clear c14
              try clear c16
              try clear c16b0
              try clear c16b1
              try clear c16b2
              try clear c23
              try clear c24
              try clear c24b0
              try clear c24b1
              try clear p2
              obtain ⟨kq, x55_18, rfl, HA, HJ18, HB⟩ := hcut
              cases kq with
              | zero => exact absurd HA.out (by simp [supercargolaw22_EndorseMay.j1])
              | succ kj18 =>
                have H := HA.out
                clear HA
                simp only [supercargolaw22_EndorseMay.j1] at H
                by_cases c26 : x55_18 = true
                · subst c26
                  have H1 : (some true) = some r := by rw [if_pos rfl] at H; exact H
                  clear H
                  have H := H1
                  clear H1
                  obtain rfl := Option.some.inj H
                  go_wp2
                  go_ret
                  exact ⟨by first | rfl | (simp [errW_none, errW_some] <;> rfl) | (simp [*, errW_none, errW_some] <;> rfl), by repeat (first | (with_reducible first | exact HB.out | apply below_alloc | apply pw_below_drewN | apply below_drew1) | exact HB.out)⟩
                · replace c26 := Bool.eq_false_iff.mpr c26
                  subst c26
                  have H1 : ((some (([] : List (S31)) : List (S31))).bind fun y201 => (if y201.length + l3.length < 2932031007402 then ((some (y201 ++ l3 : List (S31))).bind fun y204 => ((some (([(⟨a1, a2, 0, 1048576⟩ : S31)] : List (S31)) : List (S31))).bind fun y207 => (if y204.length + y207.length < 2932031007402 then ((endorse_Check.f kj18 a0 (y204 ++ y207)).bind fun bt213 => (if t196 = true then (if bt213.1.toList = a2.toList then (if bt213.2.1 = (wrap64 ((l3.length : Int) + 1)) then (supercargolaw22_EndorseMay.j2 kj18 (bt213.2.2 == 0)) else (supercargolaw22_EndorseMay.j2 kj18 false)) else (supercargolaw22_EndorseMay.j2 kj18 false)) else (if bt213.2.2 = 0 then (supercargolaw22_EndorseMay.j3 kj18 false) else (if bt213.1.toList = ([] : List UInt8) then (supercargolaw22_EndorseMay.j3 kj18 (decide (bt213.2.1 ≤ (l3.length : Int)))) else (supercargolaw22_EndorseMay.j3 kj18 false))))) else (none)))) else (none))) = some r := by rw [if_neg (show ¬ (false = true) by decide)] at H; exact H
                  clear H
                  have H := H1
                  clear H1
                  obtain ⟨y201, hy201⟩ : ∃ y_ : List (S31), y_ = (([] : List (S31))) := ⟨_, rfl⟩
                  replace H : (if y201.length + l3.length < 2932031007402 then ((some (y201 ++ l3 : List (S31))).bind fun y204 => ((some (([(⟨a1, a2, 0, 1048576⟩ : S31)] : List (S31)) : List (S31))).bind fun y207 => (if y204.length + y207.length < 2932031007402 then ((endorse_Check.f kj18 a0 (y204 ++ y207)).bind fun bt213 => (if t196 = true then (if bt213.1.toList = a2.toList then (if bt213.2.1 = (wrap64 ((l3.length : Int) + 1)) then (supercargolaw22_EndorseMay.j2 kj18 (bt213.2.2 == 0)) else (supercargolaw22_EndorseMay.j2 kj18 false)) else (supercargolaw22_EndorseMay.j2 kj18 false)) else (if bt213.2.2 = 0 then (supercargolaw22_EndorseMay.j3 kj18 false) else (if bt213.1.toList = ([] : List UInt8) then (supercargolaw22_EndorseMay.j3 kj18 (decide (bt213.2.1 ≤ (l3.length : Int)))) else (supercargolaw22_EndorseMay.j3 kj18 false))))) else (none)))) else (none)) = some r := by first | (rw [hy201]; with_reducible exact H) | (have H2_ := (Option.bind_some _ _).symm.trans H; rw [hy201]; with_reducible exact H2_) | (have H2_ := (Option.bind_some _ _).symm.trans H; with_reducible exact H2_) | with_reducible exact H | (rw [hy201]; exact H) | exact H
                  have Ny201 := Aside0.mk hy201
                  clear hy201
                  by_cases c27 : y201.length + l3.length < 2932031007402
                  · rw [if_pos c27] at H
                    have LMc27 := Aside0.mk c27
                    clear c27
                    obtain ⟨y204, hy204⟩ : ∃ y_ : List (S31), y_ = (y201 ++ l3) := ⟨_, rfl⟩
                    replace H : ((some (([(⟨a1, a2, 0, 1048576⟩ : S31)] : List (S31)) : List (S31))).bind fun y207 => (if y204.length + y207.length < 2932031007402 then ((endorse_Check.f kj18 a0 (y204 ++ y207)).bind fun bt213 => (if t196 = true then (if bt213.1.toList = a2.toList then (if bt213.2.1 = (wrap64 ((l3.length : Int) + 1)) then (supercargolaw22_EndorseMay.j2 kj18 (bt213.2.2 == 0)) else (supercargolaw22_EndorseMay.j2 kj18 false)) else (supercargolaw22_EndorseMay.j2 kj18 false)) else (if bt213.2.2 = 0 then (supercargolaw22_EndorseMay.j3 kj18 false) else (if bt213.1.toList = ([] : List UInt8) then (supercargolaw22_EndorseMay.j3 kj18 (decide (bt213.2.1 ≤ (l3.length : Int)))) else (supercargolaw22_EndorseMay.j3 kj18 false))))) else (none))) = some r := by first | (rw [hy204]; with_reducible exact H) | (have H2_ := (Option.bind_some _ _).symm.trans H; rw [hy204]; with_reducible exact H2_) | (have H2_ := (Option.bind_some _ _).symm.trans H; with_reducible exact H2_) | with_reducible exact H | (rw [hy204]; exact H) | exact H
                    have Ny204 := Aside0.mk hy204
                    clear hy204
                    obtain ⟨y207, hy207⟩ : ∃ y_ : List (S31), y_ = (([(⟨a1, a2, 0, 1048576⟩ : S31)] : List (S31))) := ⟨_, rfl⟩
                    replace H : (if y204.length + y207.length < 2932031007402 then ((endorse_Check.f kj18 a0 (y204 ++ y207)).bind fun bt213 => (if t196 = true then (if bt213.1.toList = a2.toList then (if bt213.2.1 = (wrap64 ((l3.length : Int) + 1)) then (supercargolaw22_EndorseMay.j2 kj18 (bt213.2.2 == 0)) else (supercargolaw22_EndorseMay.j2 kj18 false)) else (supercargolaw22_EndorseMay.j2 kj18 false)) else (if bt213.2.2 = 0 then (supercargolaw22_EndorseMay.j3 kj18 false) else (if bt213.1.toList = ([] : List UInt8) then (supercargolaw22_EndorseMay.j3 kj18 (decide (bt213.2.1 ≤ (l3.length : Int)))) else (supercargolaw22_EndorseMay.j3 kj18 false))))) else (none)) = some r := by first | (rw [hy207]; with_reducible exact H) | (have H2_ := (Option.bind_some _ _).symm.trans H; rw [hy207]; with_reducible exact H2_) | (have H2_ := (Option.bind_some _ _).symm.trans H; with_reducible exact H2_) | with_reducible exact H | (rw [hy207]; exact H) | exact H
                    have Ny207 := Aside0.mk hy207
                    clear hy207
                    by_cases c28 : y204.length + y207.length < 2932031007402
                    · rw [if_pos c28] at H
                      have LMc28 := Aside0.mk c28
                      clear c28
                      obtain ⟨y210, hy210⟩ : ∃ y_ : List (S31), y_ = (y204 ++ y207) := ⟨_, rfl⟩
                      replace H : ((endorse_Check.f kj18 a0 y210).bind fun bt213 => (if t196 = true then (if bt213.1.toList = a2.toList then (if bt213.2.1 = (wrap64 ((l3.length : Int) + 1)) then (supercargolaw22_EndorseMay.j2 kj18 (bt213.2.2 == 0)) else (supercargolaw22_EndorseMay.j2 kj18 false)) else (supercargolaw22_EndorseMay.j2 kj18 false)) else (if bt213.2.2 = 0 then (supercargolaw22_EndorseMay.j3 kj18 false) else (if bt213.1.toList = ([] : List UInt8) then (supercargolaw22_EndorseMay.j3 kj18 (decide (bt213.2.1 ≤ (l3.length : Int)))) else (supercargolaw22_EndorseMay.j3 kj18 false))))) = some r := by first | (rw [hy210]; with_reducible exact H) | (have H2_ := (Option.bind_some _ _).symm.trans H; rw [hy210]; with_reducible exact H2_) | (have H2_ := (Option.bind_some _ _).symm.trans H; with_reducible exact H2_) | with_reducible exact H | (rw [hy210]; exact H) | exact H
                      have Ny210 := Aside0.mk hy210
                      clear hy210
                      replace H := Option.bind_eq_some_iff.mp H
                      obtain ⟨⟨t213, t214, t215⟩, A290, H⟩ := H
                      replace H : (if t196 = true then (if t213.toList = a2.toList then (if t214 = (wrap64 ((l3.length : Int) + 1)) then (supercargolaw22_EndorseMay.j2 kj18 (t215 == 0)) else (supercargolaw22_EndorseMay.j2 kj18 false)) else (supercargolaw22_EndorseMay.j2 kj18 false)) else (if t215 = 0 then (supercargolaw22_EndorseMay.j3 kj18 false) else (if t213.toList = ([] : List UInt8) then (supercargolaw22_EndorseMay.j3 kj18 (decide (t214 ≤ (l3.length : Int)))) else (supercargolaw22_EndorseMay.j3 kj18 false)))) = some r := H
                      have A29 := Aside0.mk A290
                      clear A290
                      by_cases c30 : t196 = true
                      · subst c30
                        have H1 : (if t213.toList = a2.toList then (if t214 = (wrap64 ((l3.length : Int) + 1)) then (supercargolaw22_EndorseMay.j2 kj18 (t215 == 0)) else (supercargolaw22_EndorseMay.j2 kj18 false)) else (supercargolaw22_EndorseMay.j2 kj18 false)) = some r := by rw [if_pos rfl] at H; exact H
                        clear H
                        have H := H1
                        clear H1
                        have HC31 := Aside0.mk H
                        clear H
                        try go_wp2_with (first | ((with_reducible refine gate_dst (N := 10) rfl ?_); (try (refine gate_guard (by rfl) ?_; dsimp only)); refine box_event ?hg (N := 10) ?hd (cs := #[.string (⟨#[]⟩ : ByteArray), .string (⟨#[]⟩ : ByteArray), .int .i64 0, .int .i64 0]) (t := 31) ?hr ?_; (case hd => rfl); (case hg => rfl); (case hr => first | (go_simp; done) | (go_simp; rfl)); intro gb200 hg w32 hbox hb; have n0_ := Aside0.mk (below_step (by repeat (first | (with_reducible first | exact HB.out | apply below_alloc | apply pw_below_drewN | apply below_drew1) | exact HB.out)) hb); have n1_ := Aside0.mk (hbox); have n2_ := Aside0.mk ((by rw [hg]; exact (below_size (by repeat (first | (with_reducible first | exact HB.out | apply below_alloc | apply pw_below_drewN | apply below_drew1) | exact HB.out))) : w.heap.size ≤ gb200)); have n3_ := Aside0.mk ((by rw [hg]; exact (below_size (by repeat (first | (with_reducible first | exact HB.out | apply below_alloc | apply pw_below_drewN | apply below_drew1) | exact HB.out))) : w.heap.size ≤ gb200)); clear HB; have HB := n0_; have BK200 := n1_; have GW200 := n2_; have GE200 := n3_; clear n0_ n1_ n2_ n3_; clear hb hbox hg; have hcz33_0 : w32.cell? ⟨gb200, 0, none⟩ = some (.string (⟨#[]⟩ : ByteArray)) := (blk_cell BK200.out 0).trans rfl; have hcz33_1 : w32.cell? ⟨gb200, 1, none⟩ = some (.string (⟨#[]⟩ : ByteArray)) := (blk_cell BK200.out 1).trans rfl; have hcz33_2 : w32.cell? ⟨gb200, 2, none⟩ = some (.int .i64 0) := (blk_cell BK200.out 2).trans rfl; have hcz33_3 : w32.cell? ⟨gb200, 3, none⟩ = some (.int .i64 0) := (blk_cell BK200.out 3).trans rfl; have hfz33_0 := blk_frozen BK200.out 0; have hfz33_1 := blk_frozen BK200.out 1; have hfz33_2 := blk_frozen BK200.out 2; have hfz33_3 := blk_frozen BK200.out 3))
                        have n0_ : Aside0 (((((w32.setCell ⟨gb200, 0, none⟩ (.string a1)).setCell ⟨gb200, 1, none⟩ (.string a2)).setCell ⟨gb200, 2, none⟩ (.int .i64 0)).setCell ⟨gb200, 3, none⟩ (.int .i64 1048576)).heap[gb200]? = some (.cells #[.string a1, .string a2, .int .i64 0, .int .i64 1048576] 31 (0, 0))) := ⟨by (with_reducible repeat (first | refine blk_drewN ?_ _ | refine blk_drew ?_ | refine blk_alloc ?_ _)); refine blk_put (cs := #[.string a1, .string a2, .int .i64 0, .int .i64 0]) ?_ 3 _ rfl; (with_reducible repeat (first | refine blk_drewN ?_ _ | refine blk_drew ?_ | refine blk_alloc ?_ _)); refine blk_put (cs := #[.string a1, .string a2, .int .i64 0, .int .i64 0]) ?_ 2 _ rfl; (with_reducible repeat (first | refine blk_drewN ?_ _ | refine blk_drew ?_ | refine blk_alloc ?_ _)); refine blk_put (cs := #[.string a1, .string (⟨#[]⟩ : ByteArray), .int .i64 0, .int .i64 0]) ?_ 1 _ rfl; (with_reducible repeat (first | refine blk_drewN ?_ _ | refine blk_drew ?_ | refine blk_alloc ?_ _)); refine blk_put (cs := #[.string (⟨#[]⟩ : ByteArray), .string (⟨#[]⟩ : ByteArray), .int .i64 0, .int .i64 0]) ?_ 0 _ rfl; (with_reducible repeat (first | refine blk_drewN ?_ _ | refine blk_drew ?_ | refine blk_alloc ?_ _)); exact BK200.out⟩
                        have n1_ : Aside0 (Below w.heap.size w ((((w32.setCell ⟨gb200, 0, none⟩ (.string a1)).setCell ⟨gb200, 1, none⟩ (.string a2)).setCell ⟨gb200, 2, none⟩ (.int .i64 0)).setCell ⟨gb200, 3, none⟩ (.int .i64 1048576))) := ⟨by repeat (first | (with_reducible first | exact HB.out | apply below_alloc | apply pw_below_drewN | apply below_drew1 | refine below_set ?_ GE200.out) | exact HB.out)⟩
                        (try clear BK200)
                        (try clear HB)
                        generalize ((((w32.setCell ⟨gb200, 0, none⟩ (.string a1)).setCell ⟨gb200, 1, none⟩ (.string a2)).setCell ⟨gb200, 2, none⟩ (.int .i64 0)).setCell ⟨gb200, 3, none⟩ (.int .i64 1048576)) = w34 at n0_ n1_ ⊢
                        have BK200 := n0_
                        have HB := n1_
                        clear n0_ n1_
                        have n0_ := Aside0.mk (blk_drew BK200.out)
                        have n1_ := Aside0.mk (below_drew1 HB.out)
                        clear BK200
                        clear HB
                        have BK200 := n0_
                        have HB := n1_
                        clear n0_ n1_
                        refine start_ (n := 15) (S := fun w' => w'.cell? ⟨gb200, 0, none⟩ = some (.string a1) ∧ w'.cell? ⟨gb200, 1, none⟩ = some (.string a2) ∧ w'.cell? ⟨gb200, 2, none⟩ = some (.int .i64 0) ∧ w'.cell? ⟨gb200, 3, none⟩ = some (.int .i64 1048576)) (ds := []) #[false, false, false, false, false, false, false, false, false, false, false, false, false, false, false] (by kernel_rfl) rfl rfl ⟨(blk_cell BK200.out 0).trans rfl, (blk_cell BK200.out 1).trans rfl, (blk_cell BK200.out 2).trans rfl, (blk_cell BK200.out 3).trans rfl⟩ (fun hHeld => ?_); refine with_tabW supercargolaw22_EndorseMay.tab11 supercargolaw22_EndorseMay.bits11 (fun HT_ HW_ => ?_)
                        generalize w34.drew = w35 at BK200 HB hHeld ⊢
                        refine pure_ (i := 0) (N := some 60) (v := ?_) (a' := ?_) #[true, false, false, false, false, false, false, false, false, false, false, false, false, false, false] rfl rfl (any_of HT_.out (by kernel_rfl)) (fun _ _ _ h => h) (Or.inl ⟨by rfl, ?_⟩) ?_ ?_
                        rotate_left
                        · intro w'
                          go_simp
                          with_reducible rfl
                        rotate_left
                        · simp only [Act.put, List.setIfInBounds_toArray, List.set_cons_zero, List.set_cons_succ, i64_w, i32_w]
                          rfl
                        refine pure_ (i := 2) (N := some 62) (v := ?_) (a' := ?_) #[true, false, true, false, false, false, false, false, false, false, false, false, false, false, false] rfl rfl (any_of HT_.out (by kernel_rfl)) (fun _ _ _ h => h) (Or.inl ⟨by rfl, ?_⟩) ?_ ?_
                        rotate_left
                        · intro w'
                          go_simp
                          with_reducible rfl
                        rotate_left
                        · simp only [Act.put, List.setIfInBounds_toArray, List.set_cons_zero, List.set_cons_succ, i64_w, i32_w]
                          rfl
                        refine take_ (i := 4) (N := some 64) (v := ?_) (a' := ?_) #[true, false, true, false, true, false, false, false, false, false, false, false, false, false, false] rfl rfl (take_ofW HT_.out HW_.out (by kernel_rfl)) (fun _ _ _ h => h) (Or.inl ⟨by rfl, ?_⟩) hHeld ?_ ?_
                        rotate_left
                        · rintro w' ⟨s0, s1, s2, s3⟩
                          go_simp
                          with_reducible rfl
                        rotate_left
                        · simp only [Act.put, List.setIfInBounds_toArray, List.set_cons_zero, List.set_cons_succ, i64_w, i32_w]
                          rfl
                        refine join_ (σ := Value × Value × Value) 9 #[true, true, true, true, true, true, false, false, false, false, false, false, false, false, false] (fun s_ => [(61, s_.1), (63, s_.2.1), (65, s_.2.2)]) (fun s_ w' => (w'.cell? ⟨gb200, 0, none⟩ = some (.string a1) ∧ w'.cell? ⟨gb200, 1, none⟩ = some (.string a2) ∧ w'.cell? ⟨gb200, 2, none⟩ = some (.int .i64 0) ∧ w'.cell? ⟨gb200, 3, none⟩ = some (.int .i64 1048576)) ∧ (Kd.R k31 31 w' w.heap.size (fun k_ => some k_ ≠ (s_.2.2 : Value).ownBlock ∧ k_ ≠ gb200) s_.2.1 y204) ∧ (Kd.R k31 31 w' w.heap.size (fun k_ => some k_ ≠ (s_.2.1 : Value).ownBlock ∧ k_ ≠ gb200) s_.2.2 y207) ∧ (w'.heap[gb200]? = some (.cells #[.string a1, .string a2, .int .i64 0, .int .i64 1048576] 31 (0, 0))) ∧ (Below w.heap.size w w')) ?_ ?_
                        rotate_left
                        · intro hCont
                          refine two_ (i := 1) (j := 5) (Ni := some 61) (Nj := some 65) #[true, true, true, false, true, false, false, false, false, false, false, false, false, false, false] #[true, false, true, false, true, true, false, false, false, false, false, false, false, false, false] rfl rfl rfl rfl (two_of HT_.out (by kernel_rfl)) (by decide) (by decide) (fun K hK => ?_) (fun K hK => ?_)
                          · skip
                            refine Kd.R_lit_step k31 _ 31 ?hg (N := 61) ?hd (xs := ([] : List (S31))) (inner := []) (ok := fun _ => True) (okp := fun _ => True) ?hr ?hp (fun _ hk => hk) trivial (Below.refl _ _) (Nat.le_refl _) (by simp) ?_; (case hd => rfl); (case hg => rfl); (case hr => first | (go_simp; done) | (go_simp; rfl)); (case hp => exact (Reps.none _ _))
                            intro v202 w36 ho37 hb hg_ hnew_
                            clear hg_ hnew_
                            (first | rw [← Ny201.out] at ho37 | (simp only [Int.reduceToNat] at ho37; rw [← Ny201.out] at ho37))
                            have n0_ := Aside0.mk (Kd.R_lower (Kd.R_newB ho37 (g := gb200) (o := .cells #[.string a1, .string a2, .int .i64 0, .int .i64 1048576] 31 (0, 0)) (by (with_reducible repeat (first | refine blk_drewN ?_ _ | refine blk_drew ?_ | refine blk_alloc ?_ _)); exact BK200.out)) (below_size (by repeat (first | (with_reducible first | exact HB.out | apply below_alloc | apply pw_below_drewN | apply below_drew1 | refine below_set ?_ GE200.out) | exact HB.out))))
                            have n1_ := Aside0.mk (blk_below (g := gb200) (o := .cells #[.string a1, .string a2, .int .i64 0, .int .i64 1048576] 31 (0, 0)) (by (with_reducible repeat (first | refine blk_drewN ?_ _ | refine blk_drew ?_ | refine blk_alloc ?_ _)); exact BK200.out) hb)
                            have n2_ := Aside0.mk (below_step (by repeat (first | (with_reducible first | exact HB.out | apply below_alloc | apply pw_below_drewN | apply below_drew1 | refine below_set ?_ GE200.out) | exact HB.out)) hb)
                            clear BK200
                            clear HB
                            have HO203 := n0_
                            have BK200 := n1_
                            have HB := n2_
                            clear n0_ n1_ n2_
                            clear hb ho37
                            refine hK.out _ _ ⟨(blk_cell BK200.out 0).trans rfl, (blk_cell BK200.out 1).trans rfl, (blk_cell BK200.out 2).trans rfl, (blk_cell BK200.out 3).trans rfl⟩ (fun hHeld => ?_)
                            clear hK K
                            refine norm_ (a' := ?_) ?_ ?_
                            rotate_left
                            · show Act.put _ (some 61) _ = _
                              simp only [Act.put, List.setIfInBounds_toArray, List.set_cons_zero, List.set_cons_succ, i64_w, i32_w]
                              rfl
                            refine two_ (i := 3) (j := 5) (Ni := some 63) (Nj := some 65) #[true, true, true, true, true, false, false, false, false, false, false, false, false, false, false] #[true, true, true, false, true, true, false, false, false, false, false, false, false, false, false] rfl rfl rfl rfl (two_of HT_.out (by kernel_rfl)) (by decide) (by decide) (fun K hK => ?_) (fun K hK => ?_)
                            · skip
                              refine Kd.R_append_rows_step k31 (w0 := w) w.heap.size (by rfl) (.tmp 61) (.tmp 62) 22 31 (.agg #[(.string ⟨#[]⟩), (.string ⟨#[]⟩), (.int .i64 0), (.int .i64 0)]) 48 rfl Try.underlying22 info31 rfl (by decide) (by omega) v202 y201 l3 _ _ _ (fun k_ => k_ ≠ gb200) (fun _ => False) rfl rfl ?aO ?aR (fun _ _ h => h) (fun _ h => h.elim) ?aF ?aB ?aS ?aL ?_
                              (case aR => repeat (first | exact (Kd.C_below HR3.out HB.out) | (with_reducible refine Kd.C_alloc ?_ _) | (with_reducible refine Kd.C_drewN ?_ _) | (with_reducible refine Kd.C_drew ?_)))
                              (case aB => exact (by repeat (first | (with_reducible first | exact HB.out | apply below_alloc | apply pw_below_drewN | apply below_drew1 | refine below_set ?_ GE200.out) | exact HB.out)))
                              (case aF => exact (fun k_ hk => Kd.freshB (g := gb200) (o := .cells #[.string a1, .string a2, .int .i64 0, .int .i64 1048576] 31 (0, 0)) (by (with_reducible repeat (first | refine blk_drewN ?_ _ | refine blk_drew ?_ | refine blk_alloc ?_ _)); exact BK200.out) k_ hk))
                              (case aO => exact (by (with_reducible repeat (first | apply Kd.R_alloc | apply Kd.R_drewN | apply Kd.R_drew)); exact Kd.R_mono HO203.out (fun _ hk => hk.2)))
                              (case aS => exact (below_size (by repeat (first | (with_reducible first | exact HB.out | apply below_alloc | apply pw_below_drewN | apply below_drew1 | refine below_set ?_ GE200.out) | exact HB.out))))
                              (case aL => have := LMc27.out; omega)
                              intro v205 w38 ho hb hg hat
                              rw [← Ny204.out] at ho
                              have n0_ := Aside0.mk (blk_grown (g := gb200) (o := .cells #[.string a1, .string a2, .int .i64 0, .int .i64 1048576] 31 (0, 0)) (by (with_reducible repeat (first | refine blk_drewN ?_ _ | refine blk_drew ?_ | refine blk_alloc ?_ _)); exact BK200.out) hg (Kd.R_away HO203.out (fun _ hk => hk.2)))
                              have n1_ := Aside0.mk (hb)
                              have n2_ := Aside0.mk (ho)
                              clear BK200
                              clear HB
                              clear HO203
                              have BK200 := n0_
                              have HB := n1_
                              have HO206 := n2_
                              clear n0_ n1_ n2_
                              clear ho hb hg hat
                              refine hK.out _ _ ⟨(blk_cell BK200.out 0).trans rfl, (blk_cell BK200.out 1).trans rfl, (blk_cell BK200.out 2).trans rfl, (blk_cell BK200.out 3).trans rfl⟩ (fun hHeld => ?_)
                              clear hK K
                              refine norm_ (a' := ?_) ?_ ?_
                              rotate_left
                              · show Act.put _ (some 63) _ = _
                                simp only [Act.put, List.setIfInBounds_toArray, List.set_cons_zero, List.set_cons_succ, i64_w, i32_w]
                                rfl
                              refine one_ (i := 5) (N := some 65) #[true, true, true, true, true, true, false, false, false, false, false, false, false, false, false] rfl rfl (one_of HT_.out (by kernel_rfl)) (by decide) (fun K hK => ?_)
                              refine Kd.R_lit_step k31 _ 31 ?hg (N := 65) ?hd (xs := ([(⟨a1, a2, 0, 1048576⟩ : S31)] : List (S31))) (inner := [.string a1, .string a2, .int .i64 0, .int .i64 1048576]) (ok := fun _ => True) (okp := fun _ => True) ?hr ?hp (fun _ hk => hk) trivial (Below.refl _ _) (Nat.le_refl _) (by simp) ?_; (case hd => rfl); (case hg => rfl); (case hr => first | (go_simp; done) | (go_simp; rfl)); (case hp => exact (Reps.c4 (show Kd.M k31 _ _ _ (⟨a1, a2, 0, 1048576⟩ : S31) [.string a1, .string a2, .int .i64 0, .int .i64 1048576] from (k31_mkM _ _ _ (⟨a1, a2, 0, 1048576⟩ : S31) )) (Reps.none _ _)))
                              intro v208 w39 ho40 hb hg_ hnew_
                              clear hg_ hnew_
                              (first | rw [← Ny207.out] at ho40 | (simp only [Int.reduceToNat] at ho40; rw [← Ny207.out] at ho40))
                              have n0_ := Aside0.mk (Kd.R_elder' (by (with_reducible repeat (first | apply Kd.R_alloc | apply Kd.R_drewN | apply Kd.R_drew)); exact HO206.out) (Kd.R_base ho40) hb)
                              have n1_ := Aside0.mk (Kd.R_lower (Kd.R_newB (Kd.R_new' ho40 (Kd.R_lt (by (with_reducible repeat (first | apply Kd.R_alloc | apply Kd.R_drewN | apply Kd.R_drew)); exact HO206.out))) (g := gb200) (o := .cells #[.string a1, .string a2, .int .i64 0, .int .i64 1048576] 31 (0, 0)) (by (with_reducible repeat (first | refine blk_drewN ?_ _ | refine blk_drew ?_ | refine blk_alloc ?_ _)); exact BK200.out)) (below_size (by repeat (first | (with_reducible first | exact HB.out | apply below_alloc | apply pw_below_drewN | apply below_drew1 | refine below_set ?_ GE200.out) | exact HB.out))))
                              have n2_ := Aside0.mk (blk_below (g := gb200) (o := .cells #[.string a1, .string a2, .int .i64 0, .int .i64 1048576] 31 (0, 0)) (by (with_reducible repeat (first | refine blk_drewN ?_ _ | refine blk_drew ?_ | refine blk_alloc ?_ _)); exact BK200.out) hb)
                              have n3_ := Aside0.mk (below_step (by repeat (first | (with_reducible first | exact HB.out | apply below_alloc | apply pw_below_drewN | apply below_drew1 | refine below_set ?_ GE200.out) | exact HB.out)) hb)
                              clear HO206
                              clear BK200
                              clear HB
                              have HO206 := n0_
                              have HO209 := n1_
                              have BK200 := n2_
                              have HB := n3_
                              clear n0_ n1_ n2_ n3_
                              clear hb ho40
                              refine hK.out _ _ ⟨(blk_cell BK200.out 0).trans rfl, (blk_cell BK200.out 1).trans rfl, (blk_cell BK200.out 2).trans rfl, (blk_cell BK200.out 3).trans rfl⟩ (fun hHeld => ?_)
                              clear hK K
                              refine norm_ (a' := ?_) ?_ ?_
                              rotate_left
                              · show Act.put _ (some 65) _ = _
                                simp only [Act.put, List.setIfInBounds_toArray, List.set_cons_zero, List.set_cons_succ, i64_w, i32_w]
                                rfl
                              exact norm_ (by simp only [putAll, Act.put, List.setIfInBounds_toArray, List.set_cons_zero, List.set_cons_succ]) (hCont (v202, v205, v208) _ ⟨hHeld, (by (with_reducible repeat (first | apply Kd.R_alloc | apply Kd.R_drewN | apply Kd.R_drew)); exact Kd.R_mono HO206.out (fun _ hk => ⟨hk.2, hk.1⟩)), (by (with_reducible repeat (first | apply Kd.R_alloc | apply Kd.R_drewN | apply Kd.R_drew)); exact Kd.R_mono HO209.out (fun _ hk => ⟨hk.1.2, hk.2⟩)), (by (with_reducible repeat (first | refine blk_drewN ?_ _ | refine blk_drew ?_ | refine blk_alloc ?_ _)); exact BK200.out), (by repeat (first | (with_reducible first | exact HB.out | apply below_alloc | apply pw_below_drewN | apply below_drew1 | refine below_set ?_ GE200.out) | exact HB.out))⟩)
                            · skip
                              refine Kd.R_lit_step k31 _ 31 ?hg (N := 65) ?hd (xs := ([(⟨a1, a2, 0, 1048576⟩ : S31)] : List (S31))) (inner := [.string a1, .string a2, .int .i64 0, .int .i64 1048576]) (ok := fun _ => True) (okp := fun _ => True) ?hr ?hp (fun _ hk => hk) trivial (Below.refl _ _) (Nat.le_refl _) (by simp) ?_; (case hd => rfl); (case hg => rfl); (case hr => first | (go_simp; done) | (go_simp; rfl)); (case hp => exact (Reps.c4 (show Kd.M k31 _ _ _ (⟨a1, a2, 0, 1048576⟩ : S31) [.string a1, .string a2, .int .i64 0, .int .i64 1048576] from (k31_mkM _ _ _ (⟨a1, a2, 0, 1048576⟩ : S31) )) (Reps.none _ _)))
                              intro v208 w38 ho39 hb hg_ hnew_
                              clear hg_ hnew_
                              (first | rw [← Ny207.out] at ho39 | (simp only [Int.reduceToNat] at ho39; rw [← Ny207.out] at ho39))
                              have n0_ := Aside0.mk (Kd.R_elder' (by (with_reducible repeat (first | apply Kd.R_alloc | apply Kd.R_drewN | apply Kd.R_drew)); exact HO203.out) (Kd.R_base ho39) hb)
                              have n1_ := Aside0.mk (Kd.R_lower (Kd.R_newB (Kd.R_new' ho39 (Kd.R_lt (by (with_reducible repeat (first | apply Kd.R_alloc | apply Kd.R_drewN | apply Kd.R_drew)); exact HO203.out))) (g := gb200) (o := .cells #[.string a1, .string a2, .int .i64 0, .int .i64 1048576] 31 (0, 0)) (by (with_reducible repeat (first | refine blk_drewN ?_ _ | refine blk_drew ?_ | refine blk_alloc ?_ _)); exact BK200.out)) (below_size (by repeat (first | (with_reducible first | exact HB.out | apply below_alloc | apply pw_below_drewN | apply below_drew1 | refine below_set ?_ GE200.out) | exact HB.out))))
                              have n2_ := Aside0.mk (blk_below (g := gb200) (o := .cells #[.string a1, .string a2, .int .i64 0, .int .i64 1048576] 31 (0, 0)) (by (with_reducible repeat (first | refine blk_drewN ?_ _ | refine blk_drew ?_ | refine blk_alloc ?_ _)); exact BK200.out) hb)
                              have n3_ := Aside0.mk (below_step (by repeat (first | (with_reducible first | exact HB.out | apply below_alloc | apply pw_below_drewN | apply below_drew1 | refine below_set ?_ GE200.out) | exact HB.out)) hb)
                              clear HO203
                              clear BK200
                              clear HB
                              have HO203 := n0_
                              have HO209 := n1_
                              have BK200 := n2_
                              have HB := n3_
                              clear n0_ n1_ n2_ n3_
                              clear hb ho39
                              refine hK.out _ _ ⟨(blk_cell BK200.out 0).trans rfl, (blk_cell BK200.out 1).trans rfl, (blk_cell BK200.out 2).trans rfl, (blk_cell BK200.out 3).trans rfl⟩ (fun hHeld => ?_)
                              clear hK K
                              refine norm_ (a' := ?_) ?_ ?_
                              rotate_left
                              · show Act.put _ (some 65) _ = _
                                simp only [Act.put, List.setIfInBounds_toArray, List.set_cons_zero, List.set_cons_succ, i64_w, i32_w]
                                rfl
                              refine one_ (i := 3) (N := some 63) #[true, true, true, true, true, true, false, false, false, false, false, false, false, false, false] rfl rfl (one_of HT_.out (by kernel_rfl)) (by decide) (fun K hK => ?_)
                              refine Kd.R_append_rows_step k31 (w0 := w) w.heap.size (by rfl) (.tmp 61) (.tmp 62) 22 31 (.agg #[(.string ⟨#[]⟩), (.string ⟨#[]⟩), (.int .i64 0), (.int .i64 0)]) 48 rfl Try.underlying22 info31 rfl (by decide) (by omega) v202 y201 l3 _ _ _ (fun k_ => some k_ ≠ (v208 : Value).ownBlock ∧ k_ ≠ gb200) (fun _ => False) rfl rfl ?aO ?aR (fun _ _ h => h) (fun _ h => h.elim) ?aF ?aB ?aS ?aL ?_
                              (case aR => repeat (first | exact (Kd.C_below HR3.out HB.out) | (with_reducible refine Kd.C_alloc ?_ _) | (with_reducible refine Kd.C_drewN ?_ _) | (with_reducible refine Kd.C_drew ?_)))
                              (case aB => exact (by repeat (first | (with_reducible first | exact HB.out | apply below_alloc | apply pw_below_drewN | apply below_drew1 | refine below_set ?_ GE200.out) | exact HB.out)))
                              (case aF => exact (fun k_ hk => ⟨Kd.fresh' (Kd.R_lt (by (with_reducible repeat (first | apply Kd.R_alloc | apply Kd.R_drewN | apply Kd.R_drew)); exact HO209.out)) k_ hk, Kd.freshB (g := gb200) (o := .cells #[.string a1, .string a2, .int .i64 0, .int .i64 1048576] 31 (0, 0)) (by (with_reducible repeat (first | refine blk_drewN ?_ _ | refine blk_drew ?_ | refine blk_alloc ?_ _)); exact BK200.out) k_ hk⟩))
                              (case aO => exact (by (with_reducible repeat (first | apply Kd.R_alloc | apply Kd.R_drewN | apply Kd.R_drew)); exact Kd.R_mono HO203.out (fun _ hk => ⟨hk.2, hk.1.2⟩)))
                              (case aS => exact (below_size (by repeat (first | (with_reducible first | exact HB.out | apply below_alloc | apply pw_below_drewN | apply below_drew1 | refine below_set ?_ GE200.out) | exact HB.out))))
                              (case aL => have := LMc27.out; omega)
                              intro v205 w40 ho hb hg hat
                              rw [← Ny204.out] at ho
                              have n0_ := Aside0.mk (blk_grown (g := gb200) (o := .cells #[.string a1, .string a2, .int .i64 0, .int .i64 1048576] 31 (0, 0)) (by (with_reducible repeat (first | refine blk_drewN ?_ _ | refine blk_drew ?_ | refine blk_alloc ?_ _)); exact BK200.out) hg (Kd.R_away HO203.out (fun _ hk => hk.1.2)))
                              have n1_ := Aside0.mk (Kd.R_after (ok := (fun k_ => k_ ≠ gb200)) (by (with_reducible repeat (first | apply Kd.R_alloc | apply Kd.R_drewN | apply Kd.R_drew)); exact Kd.R_mono HO209.out (fun _ hk => ⟨hk.2, hk.1.2⟩)) hg hat)
                              have n2_ := Aside0.mk (hb)
                              have n3_ := Aside0.mk (ho)
                              clear BK200
                              clear HO209
                              clear HB
                              clear HO203
                              have BK200 := n0_
                              have HO209 := n1_
                              have HB := n2_
                              have HO206 := n3_
                              clear n0_ n1_ n2_ n3_
                              clear ho hb hg hat
                              refine hK.out _ _ ⟨(blk_cell BK200.out 0).trans rfl, (blk_cell BK200.out 1).trans rfl, (blk_cell BK200.out 2).trans rfl, (blk_cell BK200.out 3).trans rfl⟩ (fun hHeld => ?_)
                              clear hK K
                              refine norm_ (a' := ?_) ?_ ?_
                              rotate_left
                              · show Act.put _ (some 63) _ = _
                                simp only [Act.put, List.setIfInBounds_toArray, List.set_cons_zero, List.set_cons_succ, i64_w, i32_w]
                                rfl
                              exact norm_ (by simp only [putAll, Act.put, List.setIfInBounds_toArray, List.set_cons_zero, List.set_cons_succ]) (hCont (v202, v205, v208) _ ⟨hHeld, (by (with_reducible repeat (first | apply Kd.R_alloc | apply Kd.R_drewN | apply Kd.R_drew)); exact HO206.out), (by (with_reducible repeat (first | apply Kd.R_alloc | apply Kd.R_drewN | apply Kd.R_drew)); exact Kd.R_mono HO209.out (fun _ hk => ⟨hk.2, hk.1⟩)), (by (with_reducible repeat (first | refine blk_drewN ?_ _ | refine blk_drew ?_ | refine blk_alloc ?_ _)); exact BK200.out), (by repeat (first | (with_reducible first | exact HB.out | apply below_alloc | apply pw_below_drewN | apply below_drew1 | refine below_set ?_ GE200.out) | exact HB.out))⟩)
                          · skip
                            refine Kd.R_lit_step k31 _ 31 ?hg (N := 65) ?hd (xs := ([(⟨a1, a2, 0, 1048576⟩ : S31)] : List (S31))) (inner := [.string a1, .string a2, .int .i64 0, .int .i64 1048576]) (ok := fun _ => True) (okp := fun _ => True) ?hr ?hp (fun _ hk => hk) trivial (Below.refl _ _) (Nat.le_refl _) (by simp) ?_; (case hd => rfl); (case hg => rfl); (case hr => first | (go_simp; done) | (go_simp; rfl)); (case hp => exact (Reps.c4 (show Kd.M k31 _ _ _ (⟨a1, a2, 0, 1048576⟩ : S31) [.string a1, .string a2, .int .i64 0, .int .i64 1048576] from (k31_mkM _ _ _ (⟨a1, a2, 0, 1048576⟩ : S31) )) (Reps.none _ _)))
                            intro v208 w36 ho37 hb hg_ hnew_
                            clear hg_ hnew_
                            (first | rw [← Ny207.out] at ho37 | (simp only [Int.reduceToNat] at ho37; rw [← Ny207.out] at ho37))
                            have n0_ := Aside0.mk (Kd.R_lower (Kd.R_newB ho37 (g := gb200) (o := .cells #[.string a1, .string a2, .int .i64 0, .int .i64 1048576] 31 (0, 0)) (by (with_reducible repeat (first | refine blk_drewN ?_ _ | refine blk_drew ?_ | refine blk_alloc ?_ _)); exact BK200.out)) (below_size (by repeat (first | (with_reducible first | exact HB.out | apply below_alloc | apply pw_below_drewN | apply below_drew1 | refine below_set ?_ GE200.out) | exact HB.out))))
                            have n1_ := Aside0.mk (blk_below (g := gb200) (o := .cells #[.string a1, .string a2, .int .i64 0, .int .i64 1048576] 31 (0, 0)) (by (with_reducible repeat (first | refine blk_drewN ?_ _ | refine blk_drew ?_ | refine blk_alloc ?_ _)); exact BK200.out) hb)
                            have n2_ := Aside0.mk (below_step (by repeat (first | (with_reducible first | exact HB.out | apply below_alloc | apply pw_below_drewN | apply below_drew1 | refine below_set ?_ GE200.out) | exact HB.out)) hb)
                            clear BK200
                            clear HB
                            have HO209 := n0_
                            have BK200 := n1_
                            have HB := n2_
                            clear n0_ n1_ n2_
                            clear hb ho37
                            refine hK.out _ _ ⟨(blk_cell BK200.out 0).trans rfl, (blk_cell BK200.out 1).trans rfl, (blk_cell BK200.out 2).trans rfl, (blk_cell BK200.out 3).trans rfl⟩ (fun hHeld => ?_)
                            clear hK K
                            refine norm_ (a' := ?_) ?_ ?_
                            rotate_left
                            · show Act.put _ (some 65) _ = _
                              simp only [Act.put, List.setIfInBounds_toArray, List.set_cons_zero, List.set_cons_succ, i64_w, i32_w]
                              rfl
                            refine one_ (i := 1) (N := some 61) #[true, true, true, false, true, true, false, false, false, false, false, false, false, false, false] rfl rfl (one_of HT_.out (by kernel_rfl)) (by decide) (fun K hK => ?_)
                            refine Kd.R_lit_step k31 _ 31 ?hg (N := 61) ?hd (xs := ([] : List (S31))) (inner := []) (ok := fun _ => True) (okp := fun _ => True) ?hr ?hp (fun _ hk => hk) trivial (Below.refl _ _) (Nat.le_refl _) (by simp) ?_; (case hd => rfl); (case hg => rfl); (case hr => first | (go_simp; done) | (go_simp; rfl)); (case hp => exact (Reps.none _ _))
                            intro v202 w38 ho39 hb hg_ hnew_
                            clear hg_ hnew_
                            (first | rw [← Ny201.out] at ho39 | (simp only [Int.reduceToNat] at ho39; rw [← Ny201.out] at ho39))
                            have n0_ := Aside0.mk (Kd.R_elder' (by (with_reducible repeat (first | apply Kd.R_alloc | apply Kd.R_drewN | apply Kd.R_drew)); exact HO209.out) (Kd.R_base ho39) hb)
                            have n1_ := Aside0.mk (Kd.R_lower (Kd.R_newB (Kd.R_new' ho39 (Kd.R_lt (by (with_reducible repeat (first | apply Kd.R_alloc | apply Kd.R_drewN | apply Kd.R_drew)); exact HO209.out))) (g := gb200) (o := .cells #[.string a1, .string a2, .int .i64 0, .int .i64 1048576] 31 (0, 0)) (by (with_reducible repeat (first | refine blk_drewN ?_ _ | refine blk_drew ?_ | refine blk_alloc ?_ _)); exact BK200.out)) (below_size (by repeat (first | (with_reducible first | exact HB.out | apply below_alloc | apply pw_below_drewN | apply below_drew1 | refine below_set ?_ GE200.out) | exact HB.out))))
                            have n2_ := Aside0.mk (blk_below (g := gb200) (o := .cells #[.string a1, .string a2, .int .i64 0, .int .i64 1048576] 31 (0, 0)) (by (with_reducible repeat (first | refine blk_drewN ?_ _ | refine blk_drew ?_ | refine blk_alloc ?_ _)); exact BK200.out) hb)
                            have n3_ := Aside0.mk (below_step (by repeat (first | (with_reducible first | exact HB.out | apply below_alloc | apply pw_below_drewN | apply below_drew1 | refine below_set ?_ GE200.out) | exact HB.out)) hb)
                            clear HO209
                            clear BK200
                            clear HB
                            have HO209 := n0_
                            have HO203 := n1_
                            have BK200 := n2_
                            have HB := n3_
                            clear n0_ n1_ n2_ n3_
                            clear hb ho39
                            refine hK.out _ _ ⟨(blk_cell BK200.out 0).trans rfl, (blk_cell BK200.out 1).trans rfl, (blk_cell BK200.out 2).trans rfl, (blk_cell BK200.out 3).trans rfl⟩ (fun hHeld => ?_)
                            clear hK K
                            refine norm_ (a' := ?_) ?_ ?_
                            rotate_left
                            · show Act.put _ (some 61) _ = _
                              simp only [Act.put, List.setIfInBounds_toArray, List.set_cons_zero, List.set_cons_succ, i64_w, i32_w]
                              rfl
                            refine one_ (i := 3) (N := some 63) #[true, true, true, true, true, true, false, false, false, false, false, false, false, false, false] rfl rfl (one_of HT_.out (by kernel_rfl)) (by decide) (fun K hK => ?_)
                            refine Kd.R_append_rows_step k31 (w0 := w) w.heap.size (by rfl) (.tmp 61) (.tmp 62) 22 31 (.agg #[(.string ⟨#[]⟩), (.string ⟨#[]⟩), (.int .i64 0), (.int .i64 0)]) 48 rfl Try.underlying22 info31 rfl (by decide) (by omega) v202 y201 l3 _ _ _ (fun k_ => some k_ ≠ (v208 : Value).ownBlock ∧ k_ ≠ gb200) (fun _ => False) rfl rfl ?aO ?aR (fun _ _ h => h) (fun _ h => h.elim) ?aF ?aB ?aS ?aL ?_
                            (case aR => repeat (first | exact (Kd.C_below HR3.out HB.out) | (with_reducible refine Kd.C_alloc ?_ _) | (with_reducible refine Kd.C_drewN ?_ _) | (with_reducible refine Kd.C_drew ?_)))
                            (case aB => exact (by repeat (first | (with_reducible first | exact HB.out | apply below_alloc | apply pw_below_drewN | apply below_drew1 | refine below_set ?_ GE200.out) | exact HB.out)))
                            (case aF => exact (fun k_ hk => ⟨Kd.fresh' (Kd.R_lt (by (with_reducible repeat (first | apply Kd.R_alloc | apply Kd.R_drewN | apply Kd.R_drew)); exact HO209.out)) k_ hk, Kd.freshB (g := gb200) (o := .cells #[.string a1, .string a2, .int .i64 0, .int .i64 1048576] 31 (0, 0)) (by (with_reducible repeat (first | refine blk_drewN ?_ _ | refine blk_drew ?_ | refine blk_alloc ?_ _)); exact BK200.out) k_ hk⟩))
                            (case aO => exact (by (with_reducible repeat (first | apply Kd.R_alloc | apply Kd.R_drewN | apply Kd.R_drew)); exact Kd.R_mono HO203.out (fun _ hk => ⟨hk.1.2, hk.2⟩)))
                            (case aS => exact (below_size (by repeat (first | (with_reducible first | exact HB.out | apply below_alloc | apply pw_below_drewN | apply below_drew1 | refine below_set ?_ GE200.out) | exact HB.out))))
                            (case aL => have := LMc27.out; omega)
                            intro v205 w40 ho hb hg hat
                            rw [← Ny204.out] at ho
                            have n0_ := Aside0.mk (blk_grown (g := gb200) (o := .cells #[.string a1, .string a2, .int .i64 0, .int .i64 1048576] 31 (0, 0)) (by (with_reducible repeat (first | refine blk_drewN ?_ _ | refine blk_drew ?_ | refine blk_alloc ?_ _)); exact BK200.out) hg (Kd.R_away HO203.out (fun _ hk => hk.2)))
                            have n1_ := Aside0.mk (Kd.R_after (ok := (fun k_ => k_ ≠ gb200)) (by (with_reducible repeat (first | apply Kd.R_alloc | apply Kd.R_drewN | apply Kd.R_drew)); exact Kd.R_mono HO209.out (fun _ hk => ⟨hk.1.2, hk.2⟩)) hg hat)
                            have n2_ := Aside0.mk (hb)
                            have n3_ := Aside0.mk (ho)
                            clear BK200
                            clear HO209
                            clear HB
                            clear HO203
                            have BK200 := n0_
                            have HO209 := n1_
                            have HB := n2_
                            have HO206 := n3_
                            clear n0_ n1_ n2_ n3_
                            clear ho hb hg hat
                            refine hK.out _ _ ⟨(blk_cell BK200.out 0).trans rfl, (blk_cell BK200.out 1).trans rfl, (blk_cell BK200.out 2).trans rfl, (blk_cell BK200.out 3).trans rfl⟩ (fun hHeld => ?_)
                            clear hK K
                            refine norm_ (a' := ?_) ?_ ?_
                            rotate_left
                            · show Act.put _ (some 63) _ = _
                              simp only [Act.put, List.setIfInBounds_toArray, List.set_cons_zero, List.set_cons_succ, i64_w, i32_w]
                              rfl
                            exact norm_ (by simp only [putAll, Act.put, List.setIfInBounds_toArray, List.set_cons_zero, List.set_cons_succ]) (hCont (v202, v205, v208) _ ⟨hHeld, (by (with_reducible repeat (first | apply Kd.R_alloc | apply Kd.R_drewN | apply Kd.R_drew)); exact HO206.out), (by (with_reducible repeat (first | apply Kd.R_alloc | apply Kd.R_drewN | apply Kd.R_drew)); exact Kd.R_mono HO209.out (fun _ hk => ⟨hk.2, hk.1⟩)), (by (with_reducible repeat (first | refine blk_drewN ?_ _ | refine blk_drew ?_ | refine blk_alloc ?_ _)); exact BK200.out), (by repeat (first | (with_reducible first | exact HB.out | apply below_alloc | apply pw_below_drewN | apply below_drew1 | refine below_set ?_ GE200.out) | exact HB.out))⟩)
                        rintro ⟨v202, v205, v208⟩ w41 ⟨hS_, h0_, h1_, h2_, h3_⟩
                        have n0_ : Aside0 (Kd.R k31 31 w41 w.heap.size (fun k_ => some k_ ≠ (v208 : Value).ownBlock ∧ k_ ≠ gb200) v205 y204) := ⟨h0_⟩
                        have n1_ : Aside0 (Kd.R k31 31 w41 w.heap.size (fun k_ => some k_ ≠ (v205 : Value).ownBlock ∧ k_ ≠ gb200) v208 y207) := ⟨h1_⟩
                        have n2_ : Aside0 (w41.heap[gb200]? = some (.cells #[.string a1, .string a2, .int .i64 0, .int .i64 1048576] 31 (0, 0))) := ⟨h2_⟩
                        have n3_ : Aside0 (Below w.heap.size w w41) := ⟨h3_⟩
                        clear BK200
                        clear HB
                        clear h0_ h1_ h2_ h3_
                        have HO206 := n0_
                        have HO209 := n1_
                        have BK200 := n2_
                        have HB := n3_
                        clear n0_ n1_ n2_ n3_
                        have hHeld : w41.cell? ⟨gb200, 0, none⟩ = some (.string a1) ∧ w41.cell? ⟨gb200, 1, none⟩ = some (.string a2) ∧ w41.cell? ⟨gb200, 2, none⟩ = some (.int .i64 0) ∧ w41.cell? ⟨gb200, 3, none⟩ = some (.int .i64 1048576) := hS_
                        obtain ⟨Ao43, co43, eo43⟩ := Kd.R_slice HO209.out
                        (first | subst eo43 | (injection eo43 with f1_ f2_ f3_; have f4_ := f1_.symm; have f5_ := f3_.symm; clear f1_ f2_ f3_; subst f4_; subst f5_))
                        refine norm_ (a' := ?_) ?_ ?_
                        rotate_left
                        · simp only [putAll, Act.put, List.setIfInBounds_toArray, List.set_cons_zero, List.set_cons_succ]
                          rfl
                        refine one_ (i := 6) (N := some 66) #[true, true, true, true, true, true, true, false, false, false, false, false, false, false, false] rfl rfl (one_of HT_.out (by kernel_rfl)) (by decide) (fun K hK => ?_)
                        refine Kd.R_append_rows_step k31 (w0 := w) w.heap.size (by rfl) (.tmp 63) (.tmp 65) 22 31 (.agg #[(.string ⟨#[]⟩), (.string ⟨#[]⟩), (.int .i64 0), (.int .i64 0)]) 48 rfl Try.underlying22 info31 rfl (by decide) (by omega) v205 y204 y207 _ _ _ (fun k_ => some k_ ≠ (.slice Ao43 y207.length co43 : Value).ownBlock ∧ k_ ≠ gb200) (fun _ => False) rfl rfl ?aO ?aR (fun _ _ h => h) (fun _ h => h.elim) ?aF ?aB ?aS ?aL ?_
                        (case aR => repeat (first | exact (Kd.R_reads' HO209.out).2.2 | (with_reducible refine Kd.C_alloc ?_ _) | (with_reducible refine Kd.C_drewN ?_ _) | (with_reducible refine Kd.C_drew ?_)))
                        (case aB => exact (by repeat (first | (with_reducible first | exact HB.out | apply below_alloc | apply pw_below_drewN | apply below_drew1 | refine below_set ?_ GE200.out) | exact HB.out)))
                        (case aF => exact (fun k_ hk => ⟨Kd.fresh' (Kd.R_lt (by (with_reducible repeat (first | apply Kd.R_alloc | apply Kd.R_drewN | apply Kd.R_drew)); exact HO209.out)) k_ hk, Kd.freshB (g := gb200) (o := .cells #[.string a1, .string a2, .int .i64 0, .int .i64 1048576] 31 (0, 0)) (by (with_reducible repeat (first | refine blk_drewN ?_ _ | refine blk_drew ?_ | refine blk_alloc ?_ _)); exact BK200.out) k_ hk⟩))
                        (case aO => exact (by (with_reducible repeat (first | apply Kd.R_alloc | apply Kd.R_drewN | apply Kd.R_drew)); exact HO206.out))
                        (case aS => exact (below_size (by repeat (first | (with_reducible first | exact HB.out | apply below_alloc | apply pw_below_drewN | apply below_drew1 | refine below_set ?_ GE200.out) | exact HB.out))))
                        (case aL => have := LMc28.out; omega)
                        intro v211 w42 ho hb hg hat
                        rw [← Ny210.out] at ho
                        have n0_ := Aside0.mk (blk_grown (g := gb200) (o := .cells #[.string a1, .string a2, .int .i64 0, .int .i64 1048576] 31 (0, 0)) (by (with_reducible repeat (first | refine blk_drewN ?_ _ | refine blk_drew ?_ | refine blk_alloc ?_ _)); exact BK200.out) hg (Kd.R_away HO206.out (fun _ hk => hk.2)))
                        have n1_ := Aside0.mk (Kd.R_after (ok := (fun k_ => k_ ≠ gb200)) (by (with_reducible repeat (first | apply Kd.R_alloc | apply Kd.R_drewN | apply Kd.R_drew)); exact Kd.R_mono HO209.out (fun _ hk => ⟨hk.2, hk.1⟩)) hg hat)
                        have n2_ := Aside0.mk (hb)
                        have n3_ := Aside0.mk (ho)
                        clear BK200
                        clear HO209
                        clear HB
                        clear HO206
                        have BK200 := n0_
                        have HO209 := n1_
                        have HB := n2_
                        have HO212 := n3_
                        clear n0_ n1_ n2_ n3_
                        clear ho hb hg hat
                        obtain ⟨Ao44, co44, eo44⟩ := Kd.R_slice HO212.out
                        (first | subst eo44 | (injection eo44 with f1_ f2_ f3_; have f4_ := f1_.symm; have f5_ := f3_.symm; clear f1_ f2_ f3_; subst f4_; subst f5_))
                        refine hK.out _ _ ⟨(blk_cell BK200.out 0).trans rfl, (blk_cell BK200.out 1).trans rfl, (blk_cell BK200.out 2).trans rfl, (blk_cell BK200.out 3).trans rfl⟩ (fun hHeld => ?_)
                        clear hK K
                        refine norm_ (a' := ?_) ?_ ?_
                        rotate_left
                        · show Act.put _ (some 66) _ = _
                          simp only [Act.put, List.setIfInBounds_toArray, List.set_cons_zero, List.set_cons_succ, i64_w, i32_w]
                          rfl
                        refine one_ (i := 7) (N := some 67) #[true, true, true, true, true, true, true, true, false, false, false, false, false, false, false] rfl rfl (one_of HT_.out (by kernel_rfl)) (by decide) (fun K hK => ?_)
                        refine goes_ Try.func11 (by kernel_rfl) rfl #[.string a0, .slice Ao44 y210.length co44] (by rfl) rfl rfl (by (try simp only [List.map_toArray, List.map_cons, List.map_nil]); first | done | rfl | (simp only [List.length_drop, List.length_take]; rfl)) ?_
                        with_reducible refine (endorse_Check.calls kj18 a0 _ _ y210 t213 t214 t215 _ ?side1 ?side2 A29.out).mono ?_
                        (case side1 => repeat (first | exact (Kd.R_reads' HO212.out).2.2 | (with_reducible refine Kd.C_alloc ?_ _) | (with_reducible refine Kd.C_drewN ?_ _) | (with_reducible refine Kd.C_drew ?_)))
                        (case side2 => exact (Kd.R_reads' HO212.out).2.1)
                        rintro e w45 ⟨rfl, hb⟩
                        refine ⟨_, rfl, ?_⟩
                        have n0_ := Aside0.mk (Kd.R_below (by (with_reducible repeat (first | apply Kd.R_alloc | apply Kd.R_drewN | apply Kd.R_drew)); exact HO209.out) hb)
                        have n1_ := Aside0.mk (Kd.R_below (by (with_reducible repeat (first | apply Kd.R_alloc | apply Kd.R_drewN | apply Kd.R_drew)); exact HO212.out) hb)
                        have n2_ := Aside0.mk (blk_below (g := gb200) (o := .cells #[.string a1, .string a2, .int .i64 0, .int .i64 1048576] 31 (0, 0)) (by (with_reducible repeat (first | refine blk_drewN ?_ _ | refine blk_drew ?_ | refine blk_alloc ?_ _)); exact BK200.out) hb)
                        have n3_ := Aside0.mk (below_step (by repeat (first | (with_reducible first | exact HB.out | apply below_alloc | apply pw_below_drewN | apply below_drew1 | refine below_set ?_ GE200.out) | exact HB.out)) hb)
                        clear HO209
                        clear HO212
                        clear BK200
                        clear HB
                        have HO209 := n0_
                        have HO212 := n1_
                        have BK200 := n2_
                        have HB := n3_
                        clear n0_ n1_ n2_ n3_
                        (try clear hb)
                        (try clear hb2)
                        (try clear hk)
                        (try clear hi)
                        refine hK.out _ _ ⟨(blk_cell BK200.out 0).trans rfl, (blk_cell BK200.out 1).trans rfl, (blk_cell BK200.out 2).trans rfl, (blk_cell BK200.out 3).trans rfl⟩ (fun hHeld => ?_)
                        clear hK K
                        refine norm_ (a' := ?_) ?_ ?_
                        rotate_left
                        · show Act.put _ (some 67) _ = _
                          simp only [Act.put, List.setIfInBounds_toArray, List.set_cons_zero, List.set_cons_succ, i64_w, i32_w]
                          rfl
                        refine pure_ (i := 8) (N := some 59) (v := ?_) (a' := ?_) #[true, true, true, true, true, true, true, true, true, false, false, false, false, false, false] rfl rfl (any_of HT_.out (by kernel_rfl)) (fun _ _ _ h => h) (Or.inl ⟨by rfl, ?_⟩) ?_ ?_
                        rotate_left
                        · intro w'
                          go_simp
                          with_reducible rfl
                        rotate_left
                        · simp only [Act.put, List.setIfInBounds_toArray, List.set_cons_zero, List.set_cons_succ, i64_w, i32_w]
                          rfl
                        refine pure_ (i := 9) (N := some 68) (v := ?_) (a' := ?_) #[true, true, true, true, true, true, true, true, true, true, false, false, false, false, false] rfl rfl (any_of HT_.out (by kernel_rfl)) (fun _ _ _ h => h) (Or.inl ⟨by rfl, ?_⟩) ?_ ?_
                        rotate_left
                        · intro w'
                          go_simp
                          with_reducible rfl
                        rotate_left
                        · simp only [Act.put, List.setIfInBounds_toArray, List.set_cons_zero, List.set_cons_succ, i64_w, i32_w]
                          rfl
                        refine pure_ (i := 10) (N := some 69) (v := ?_) (a' := ?_) #[true, true, true, true, true, true, true, true, true, true, true, false, false, false, false] rfl rfl (any_of HT_.out (by kernel_rfl)) (fun _ _ _ h => h) (Or.inl ⟨by rfl, ?_⟩) ?_ ?_
                        rotate_left
                        · intro w'
                          go_simp
                          with_reducible rfl
                        rotate_left
                        · simp only [Act.put, List.setIfInBounds_toArray, List.set_cons_zero, List.set_cons_succ, i64_w, i32_w]
                          rfl
                        refine pure_ (i := 11) (N := some 70) (v := ?_) (a' := ?_) #[true, true, true, true, true, true, true, true, true, true, true, true, false, false, false] rfl rfl (any_of HT_.out (by kernel_rfl)) (fun _ _ _ h => h) (Or.inl ⟨by rfl, ?_⟩) ?_ ?_
                        rotate_left
                        · intro w'
                          go_simp
                          with_reducible rfl
                        rotate_left
                        · simp only [Act.put, List.setIfInBounds_toArray, List.set_cons_zero, List.set_cons_succ, i64_w, i32_w]
                          rfl
                        refine pure_ (i := 12) (N := some 11) (v := ?_) (a' := ?_) #[true, true, true, true, true, true, true, true, true, true, true, true, true, false, false] rfl rfl (any_of HT_.out (by kernel_rfl)) (fun _ _ _ h => h) (Or.inl ⟨by rfl, ?_⟩) ?_ ?_
                        rotate_left
                        · intro w'
                          go_simp
                          with_reducible rfl
                        rotate_left
                        · simp only [Act.put, List.setIfInBounds_toArray, List.set_cons_zero, List.set_cons_succ, i64_w, i32_w]
                          rfl
                        refine pure_ (i := 13) (N := some 12) (v := ?_) (a' := ?_) #[true, true, true, true, true, true, true, true, true, true, true, true, true, true, false] rfl rfl (any_of HT_.out (by kernel_rfl)) (fun _ _ _ h => h) (Or.inl ⟨by rfl, ?_⟩) ?_ ?_
                        rotate_left
                        · intro w'
                          go_simp
                          with_reducible rfl
                        rotate_left
                        · simp only [Act.put, List.setIfInBounds_toArray, List.set_cons_zero, List.set_cons_succ, i64_w, i32_w]
                          rfl
                        refine pure_ (i := 14) (N := some 13) (v := ?_) (a' := ?_) #[true, true, true, true, true, true, true, true, true, true, true, true, true, true, true] rfl rfl (any_of HT_.out (by kernel_rfl)) (fun _ _ _ h => h) (Or.inl ⟨by rfl, ?_⟩) ?_ ?_
                        rotate_left
                        · intro w'
                          go_simp
                          with_reducible rfl
                        rotate_left
                        · simp only [Act.put, List.setIfInBounds_toArray, List.set_cons_zero, List.set_cons_succ, i64_w, i32_w]
                          rfl
                        refine done_ (done_of HT_.out (by kernel_rfl)) ?_
                        go_upto_region 13 with (fail)
                        go_cut [8] (fun v8 wc => ∃ (kq : Nat) (x8_30 : Bool), v8 = .bool x8_30 ∧ Aside0 (supercargolaw22_EndorseMay.j2 kq x8_30 = some r) ∧ Aside0 (kq ≤ kj18) ∧ Aside0 (wc.heap[gb200]? = some (.cells #[.string a1, .string a2, .int .i64 0, .int .i64 1048576] 31 (0, 0))) ∧ Aside0 (Below w.heap.size w wc))
                        case first =>
                          have H := HC31.out
                          clear HC31
                          by_cases c46 : t213.toList = a2.toList
                          · rw [if_pos c46] at H
                            have c46b0 : (t213.toList == a2.toList) = true := beq_iff_eq.mpr c46
                            have c46b1 : (t213.toList != a2.toList) = false := bne_eq_false_iff_eq.mpr c46
                            clear c46
                            (first | rw [c46b0] | (simp only [i64_w, i32_w]; rw [c46b0]) | skip)
                            by_cases c47 : t214 = (wrap64 ((l3.length : Int) + 1))
                            · rw [if_pos c47] at H
                              have c47b0 : (t214 == (wrap64 ((l3.length : Int) + 1))) = true := beq_iff_eq.mpr c47
                              have c47b1 : (t214 != (wrap64 ((l3.length : Int) + 1))) = false := bne_eq_false_iff_eq.mpr c47
                              clear c47
                              have H' := Aside0.mk H
                              clear H
                              go_wp2
                              go_meet
                              case rel => exact ⟨_, ((t215 == 0)), (by first | rfl | (simp; done) | (simp [*]; done)), H', ⟨by have := HJ6.out; have := HJ18.out; first | omega | exact Nat.le_refl _⟩, ⟨by (with_reducible repeat (first | refine blk_drewN ?_ _ | refine blk_drew ?_ | refine blk_alloc ?_ _)); exact BK200.out⟩, ⟨by repeat (first | (with_reducible first | exact HB.out | apply below_alloc | apply pw_below_drewN | apply below_drew1 | refine below_set ?_ GE200.out) | exact HB.out)⟩⟩
                            · rw [if_neg c47] at H
                              have c47b0 : (t214 == (wrap64 ((l3.length : Int) + 1))) = false := beq_eq_false_iff_ne.mpr c47
                              have c47b1 : (t214 != (wrap64 ((l3.length : Int) + 1))) = true := bne_iff_ne.mpr c47
                              have H' := Aside0.mk H
                              clear H
                              go_wp2
                              go_meet
                              case rel => exact ⟨_, (false), (by first | rfl | (simp; done) | (simp [*]; done)), H', ⟨by have := HJ6.out; have := HJ18.out; first | omega | exact Nat.le_refl _⟩, ⟨by (with_reducible repeat (first | refine blk_drewN ?_ _ | refine blk_drew ?_ | refine blk_alloc ?_ _)); exact BK200.out⟩, ⟨by repeat (first | (with_reducible first | exact HB.out | apply below_alloc | apply pw_below_drewN | apply below_drew1 | refine below_set ?_ GE200.out) | exact HB.out)⟩⟩
                          · rw [if_neg c46] at H
                            have c46b0 : (t213.toList == a2.toList) = false := beq_eq_false_iff_ne.mpr c46
                            have c46b1 : (t213.toList != a2.toList) = true := bne_iff_ne.mpr c46
                            (first | rw [c46b0] | (simp only [i64_w, i32_w]; rw [c46b0]) | skip)
                            have H' := Aside0.mk H
                            clear H
                            go_wp2
                            go_meet
                            case rel => exact ⟨_, (false), (by first | rfl | (simp; done) | (simp [*]; done)), H', ⟨by have := HJ6.out; have := HJ18.out; first | omega | exact Nat.le_refl _⟩, ⟨by (with_reducible repeat (first | refine blk_drewN ?_ _ | refine blk_drew ?_ | refine blk_alloc ?_ _)); exact BK200.out⟩, ⟨by repeat (first | (with_reducible first | exact HB.out | apply below_alloc | apply pw_below_drewN | apply below_drew1 | refine below_set ?_ GE200.out) | exact HB.out)⟩⟩
                        case rest =>
                          clear HC31
                          try clear c1
                          try clear c2
                          try clear p2
                          try clear c3
                          try clear c4
                          try clear c6
                          try clear p6
                          try clear c7
                          try clear c8
                          try clear c10
                          try clear c11
                          try clear c11b0
                          try clear c11b1
                          try clear c12
                          try clear c12b0
                          try clear c12b1
                          try clear c13
                          try clear c14
                          try clear c16
                          try clear c16b0
                          try clear c16b1
                          try clear c16b2
                          try clear c23
                          try clear c24
                          try clear c24b0
                          try clear c24b1
                          try clear c26
                          try clear c27
                          try clear c28
                          try clear c30
                          try clear c46
                          try clear c46b0
                          try clear c46b1
                          try clear c47
                          try clear c47b0
                          try clear c47b1
                          try clear hcz33_0
                          try clear hcz33_1
                          try clear hcz33_2
                          try clear hcz33_3
                          try clear hfz33_0
                          try clear hfz33_1
                          try clear hfz33_2
                          try clear hfz33_3
                          try clear p2
                          obtain ⟨kq, x8_30, rfl, HA, HJ30, BK200, HB⟩ := hcut
                          cases kq with
                          | zero => exact absurd HA.out (by simp [supercargolaw22_EndorseMay.j2])
                          | succ kj30 =>
                            have H := HA.out
                            clear HA
                            simp only [supercargolaw22_EndorseMay.j2] at H
                            obtain rfl := Option.some.inj H
                            go_wp2
                            go_ret
                            exact ⟨by first | rfl | (simp [errW_none, errW_some] <;> rfl) | (simp [*, errW_none, errW_some] <;> rfl), by repeat (first | (with_reducible first | exact HB.out | apply below_alloc | apply pw_below_drewN | apply below_drew1 | refine below_set ?_ GE200.out) | exact HB.out)⟩
                      · replace c30 := Bool.eq_false_iff.mpr c30
                        subst c30
                        have H1 : (if t215 = 0 then (supercargolaw22_EndorseMay.j3 kj18 false) else (if t213.toList = ([] : List UInt8) then (supercargolaw22_EndorseMay.j3 kj18 (decide (t214 ≤ (l3.length : Int)))) else (supercargolaw22_EndorseMay.j3 kj18 false))) = some r := by rw [if_neg (show ¬ (false = true) by decide)] at H; exact H
                        clear H
                        have H := H1
                        clear H1
                        have HC48 := Aside0.mk H
                        clear H
                        try go_wp2_with (first | ((with_reducible refine gate_dst (N := 10) rfl ?_); (try (refine gate_guard (by rfl) ?_; dsimp only)); refine box_event ?hg (N := 10) ?hd (cs := #[.string (⟨#[]⟩ : ByteArray), .string (⟨#[]⟩ : ByteArray), .int .i64 0, .int .i64 0]) (t := 31) ?hr ?_; (case hd => rfl); (case hg => rfl); (case hr => first | (go_simp; done) | (go_simp; rfl)); intro gb200 hg w49 hbox hb; have n0_ := Aside0.mk (below_step (by repeat (first | (with_reducible first | exact HB.out | apply below_alloc | apply pw_below_drewN | apply below_drew1) | exact HB.out)) hb); have n1_ := Aside0.mk (hbox); have n2_ := Aside0.mk ((by rw [hg]; exact (below_size (by repeat (first | (with_reducible first | exact HB.out | apply below_alloc | apply pw_below_drewN | apply below_drew1) | exact HB.out))) : w.heap.size ≤ gb200)); have n3_ := Aside0.mk ((by rw [hg]; exact (below_size (by repeat (first | (with_reducible first | exact HB.out | apply below_alloc | apply pw_below_drewN | apply below_drew1) | exact HB.out))) : w.heap.size ≤ gb200)); clear HB; have HB := n0_; have BK200 := n1_; have GW200 := n2_; have GE200 := n3_; clear n0_ n1_ n2_ n3_; clear hb hbox hg; have hcz50_0 : w49.cell? ⟨gb200, 0, none⟩ = some (.string (⟨#[]⟩ : ByteArray)) := (blk_cell BK200.out 0).trans rfl; have hcz50_1 : w49.cell? ⟨gb200, 1, none⟩ = some (.string (⟨#[]⟩ : ByteArray)) := (blk_cell BK200.out 1).trans rfl; have hcz50_2 : w49.cell? ⟨gb200, 2, none⟩ = some (.int .i64 0) := (blk_cell BK200.out 2).trans rfl; have hcz50_3 : w49.cell? ⟨gb200, 3, none⟩ = some (.int .i64 0) := (blk_cell BK200.out 3).trans rfl; have hfz50_0 := blk_frozen BK200.out 0; have hfz50_1 := blk_frozen BK200.out 1; have hfz50_2 := blk_frozen BK200.out 2; have hfz50_3 := blk_frozen BK200.out 3))
                        have n0_ : Aside0 (((((w49.setCell ⟨gb200, 0, none⟩ (.string a1)).setCell ⟨gb200, 1, none⟩ (.string a2)).setCell ⟨gb200, 2, none⟩ (.int .i64 0)).setCell ⟨gb200, 3, none⟩ (.int .i64 1048576)).heap[gb200]? = some (.cells #[.string a1, .string a2, .int .i64 0, .int .i64 1048576] 31 (0, 0))) := ⟨by (with_reducible repeat (first | refine blk_drewN ?_ _ | refine blk_drew ?_ | refine blk_alloc ?_ _)); refine blk_put (cs := #[.string a1, .string a2, .int .i64 0, .int .i64 0]) ?_ 3 _ rfl; (with_reducible repeat (first | refine blk_drewN ?_ _ | refine blk_drew ?_ | refine blk_alloc ?_ _)); refine blk_put (cs := #[.string a1, .string a2, .int .i64 0, .int .i64 0]) ?_ 2 _ rfl; (with_reducible repeat (first | refine blk_drewN ?_ _ | refine blk_drew ?_ | refine blk_alloc ?_ _)); refine blk_put (cs := #[.string a1, .string (⟨#[]⟩ : ByteArray), .int .i64 0, .int .i64 0]) ?_ 1 _ rfl; (with_reducible repeat (first | refine blk_drewN ?_ _ | refine blk_drew ?_ | refine blk_alloc ?_ _)); refine blk_put (cs := #[.string (⟨#[]⟩ : ByteArray), .string (⟨#[]⟩ : ByteArray), .int .i64 0, .int .i64 0]) ?_ 0 _ rfl; (with_reducible repeat (first | refine blk_drewN ?_ _ | refine blk_drew ?_ | refine blk_alloc ?_ _)); exact BK200.out⟩
                        have n1_ : Aside0 (Below w.heap.size w ((((w49.setCell ⟨gb200, 0, none⟩ (.string a1)).setCell ⟨gb200, 1, none⟩ (.string a2)).setCell ⟨gb200, 2, none⟩ (.int .i64 0)).setCell ⟨gb200, 3, none⟩ (.int .i64 1048576))) := ⟨by repeat (first | (with_reducible first | exact HB.out | apply below_alloc | apply pw_below_drewN | apply below_drew1 | refine below_set ?_ GE200.out) | exact HB.out)⟩
                        (try clear BK200)
                        (try clear HB)
                        generalize ((((w49.setCell ⟨gb200, 0, none⟩ (.string a1)).setCell ⟨gb200, 1, none⟩ (.string a2)).setCell ⟨gb200, 2, none⟩ (.int .i64 0)).setCell ⟨gb200, 3, none⟩ (.int .i64 1048576)) = w51 at n0_ n1_ ⊢
                        have BK200 := n0_
                        have HB := n1_
                        clear n0_ n1_
                        have n0_ := Aside0.mk (blk_drew BK200.out)
                        have n1_ := Aside0.mk (below_drew1 HB.out)
                        clear BK200
                        clear HB
                        have BK200 := n0_
                        have HB := n1_
                        clear n0_ n1_
                        refine start_ (n := 15) (S := fun w' => w'.cell? ⟨gb200, 0, none⟩ = some (.string a1) ∧ w'.cell? ⟨gb200, 1, none⟩ = some (.string a2) ∧ w'.cell? ⟨gb200, 2, none⟩ = some (.int .i64 0) ∧ w'.cell? ⟨gb200, 3, none⟩ = some (.int .i64 1048576)) (ds := []) #[false, false, false, false, false, false, false, false, false, false, false, false, false, false, false] (by kernel_rfl) rfl rfl ⟨(blk_cell BK200.out 0).trans rfl, (blk_cell BK200.out 1).trans rfl, (blk_cell BK200.out 2).trans rfl, (blk_cell BK200.out 3).trans rfl⟩ (fun hHeld => ?_); refine with_tabW supercargolaw22_EndorseMay.tab11 supercargolaw22_EndorseMay.bits11 (fun HT_ HW_ => ?_)
                        generalize w51.drew = w52 at BK200 HB hHeld ⊢
                        refine pure_ (i := 0) (N := some 60) (v := ?_) (a' := ?_) #[true, false, false, false, false, false, false, false, false, false, false, false, false, false, false] rfl rfl (any_of HT_.out (by kernel_rfl)) (fun _ _ _ h => h) (Or.inl ⟨by rfl, ?_⟩) ?_ ?_
                        rotate_left
                        · intro w'
                          go_simp
                          with_reducible rfl
                        rotate_left
                        · simp only [Act.put, List.setIfInBounds_toArray, List.set_cons_zero, List.set_cons_succ, i64_w, i32_w]
                          rfl
                        refine pure_ (i := 2) (N := some 62) (v := ?_) (a' := ?_) #[true, false, true, false, false, false, false, false, false, false, false, false, false, false, false] rfl rfl (any_of HT_.out (by kernel_rfl)) (fun _ _ _ h => h) (Or.inl ⟨by rfl, ?_⟩) ?_ ?_
                        rotate_left
                        · intro w'
                          go_simp
                          with_reducible rfl
                        rotate_left
                        · simp only [Act.put, List.setIfInBounds_toArray, List.set_cons_zero, List.set_cons_succ, i64_w, i32_w]
                          rfl
                        refine take_ (i := 4) (N := some 64) (v := ?_) (a' := ?_) #[true, false, true, false, true, false, false, false, false, false, false, false, false, false, false] rfl rfl (take_ofW HT_.out HW_.out (by kernel_rfl)) (fun _ _ _ h => h) (Or.inl ⟨by rfl, ?_⟩) hHeld ?_ ?_
                        rotate_left
                        · rintro w' ⟨s0, s1, s2, s3⟩
                          go_simp
                          with_reducible rfl
                        rotate_left
                        · simp only [Act.put, List.setIfInBounds_toArray, List.set_cons_zero, List.set_cons_succ, i64_w, i32_w]
                          rfl
                        refine join_ (σ := Value × Value × Value) 9 #[true, true, true, true, true, true, false, false, false, false, false, false, false, false, false] (fun s_ => [(61, s_.1), (63, s_.2.1), (65, s_.2.2)]) (fun s_ w' => (w'.cell? ⟨gb200, 0, none⟩ = some (.string a1) ∧ w'.cell? ⟨gb200, 1, none⟩ = some (.string a2) ∧ w'.cell? ⟨gb200, 2, none⟩ = some (.int .i64 0) ∧ w'.cell? ⟨gb200, 3, none⟩ = some (.int .i64 1048576)) ∧ (Kd.R k31 31 w' w.heap.size (fun k_ => some k_ ≠ (s_.2.2 : Value).ownBlock ∧ k_ ≠ gb200) s_.2.1 y204) ∧ (Kd.R k31 31 w' w.heap.size (fun k_ => some k_ ≠ (s_.2.1 : Value).ownBlock ∧ k_ ≠ gb200) s_.2.2 y207) ∧ (w'.heap[gb200]? = some (.cells #[.string a1, .string a2, .int .i64 0, .int .i64 1048576] 31 (0, 0))) ∧ (Below w.heap.size w w')) ?_ ?_
                        rotate_left
                        · intro hCont
                          refine two_ (i := 1) (j := 5) (Ni := some 61) (Nj := some 65) #[true, true, true, false, true, false, false, false, false, false, false, false, false, false, false] #[true, false, true, false, true, true, false, false, false, false, false, false, false, false, false] rfl rfl rfl rfl (two_of HT_.out (by kernel_rfl)) (by decide) (by decide) (fun K hK => ?_) (fun K hK => ?_)
                          · skip
                            refine Kd.R_lit_step k31 _ 31 ?hg (N := 61) ?hd (xs := ([] : List (S31))) (inner := []) (ok := fun _ => True) (okp := fun _ => True) ?hr ?hp (fun _ hk => hk) trivial (Below.refl _ _) (Nat.le_refl _) (by simp) ?_; (case hd => rfl); (case hg => rfl); (case hr => first | (go_simp; done) | (go_simp; rfl)); (case hp => exact (Reps.none _ _))
                            intro v202 w53 ho54 hb hg_ hnew_
                            clear hg_ hnew_
                            (first | rw [← Ny201.out] at ho54 | (simp only [Int.reduceToNat] at ho54; rw [← Ny201.out] at ho54))
                            have n0_ := Aside0.mk (Kd.R_lower (Kd.R_newB ho54 (g := gb200) (o := .cells #[.string a1, .string a2, .int .i64 0, .int .i64 1048576] 31 (0, 0)) (by (with_reducible repeat (first | refine blk_drewN ?_ _ | refine blk_drew ?_ | refine blk_alloc ?_ _)); exact BK200.out)) (below_size (by repeat (first | (with_reducible first | exact HB.out | apply below_alloc | apply pw_below_drewN | apply below_drew1 | refine below_set ?_ GE200.out) | exact HB.out))))
                            have n1_ := Aside0.mk (blk_below (g := gb200) (o := .cells #[.string a1, .string a2, .int .i64 0, .int .i64 1048576] 31 (0, 0)) (by (with_reducible repeat (first | refine blk_drewN ?_ _ | refine blk_drew ?_ | refine blk_alloc ?_ _)); exact BK200.out) hb)
                            have n2_ := Aside0.mk (below_step (by repeat (first | (with_reducible first | exact HB.out | apply below_alloc | apply pw_below_drewN | apply below_drew1 | refine below_set ?_ GE200.out) | exact HB.out)) hb)
                            clear BK200
                            clear HB
                            have HO203 := n0_
                            have BK200 := n1_
                            have HB := n2_
                            clear n0_ n1_ n2_
                            clear hb ho54
                            refine hK.out _ _ ⟨(blk_cell BK200.out 0).trans rfl, (blk_cell BK200.out 1).trans rfl, (blk_cell BK200.out 2).trans rfl, (blk_cell BK200.out 3).trans rfl⟩ (fun hHeld => ?_)
                            clear hK K
                            refine norm_ (a' := ?_) ?_ ?_
                            rotate_left
                            · show Act.put _ (some 61) _ = _
                              simp only [Act.put, List.setIfInBounds_toArray, List.set_cons_zero, List.set_cons_succ, i64_w, i32_w]
                              rfl
                            refine two_ (i := 3) (j := 5) (Ni := some 63) (Nj := some 65) #[true, true, true, true, true, false, false, false, false, false, false, false, false, false, false] #[true, true, true, false, true, true, false, false, false, false, false, false, false, false, false] rfl rfl rfl rfl (two_of HT_.out (by kernel_rfl)) (by decide) (by decide) (fun K hK => ?_) (fun K hK => ?_)
                            · skip
                              refine Kd.R_append_rows_step k31 (w0 := w) w.heap.size (by rfl) (.tmp 61) (.tmp 62) 22 31 (.agg #[(.string ⟨#[]⟩), (.string ⟨#[]⟩), (.int .i64 0), (.int .i64 0)]) 48 rfl Try.underlying22 info31 rfl (by decide) (by omega) v202 y201 l3 _ _ _ (fun k_ => k_ ≠ gb200) (fun _ => False) rfl rfl ?aO ?aR (fun _ _ h => h) (fun _ h => h.elim) ?aF ?aB ?aS ?aL ?_
                              (case aR => repeat (first | exact (Kd.C_below HR3.out HB.out) | (with_reducible refine Kd.C_alloc ?_ _) | (with_reducible refine Kd.C_drewN ?_ _) | (with_reducible refine Kd.C_drew ?_)))
                              (case aB => exact (by repeat (first | (with_reducible first | exact HB.out | apply below_alloc | apply pw_below_drewN | apply below_drew1 | refine below_set ?_ GE200.out) | exact HB.out)))
                              (case aF => exact (fun k_ hk => Kd.freshB (g := gb200) (o := .cells #[.string a1, .string a2, .int .i64 0, .int .i64 1048576] 31 (0, 0)) (by (with_reducible repeat (first | refine blk_drewN ?_ _ | refine blk_drew ?_ | refine blk_alloc ?_ _)); exact BK200.out) k_ hk))
                              (case aO => exact (by (with_reducible repeat (first | apply Kd.R_alloc | apply Kd.R_drewN | apply Kd.R_drew)); exact Kd.R_mono HO203.out (fun _ hk => hk.2)))
                              (case aS => exact (below_size (by repeat (first | (with_reducible first | exact HB.out | apply below_alloc | apply pw_below_drewN | apply below_drew1 | refine below_set ?_ GE200.out) | exact HB.out))))
                              (case aL => have := LMc27.out; omega)
                              intro v205 w55 ho hb hg hat
                              rw [← Ny204.out] at ho
                              have n0_ := Aside0.mk (blk_grown (g := gb200) (o := .cells #[.string a1, .string a2, .int .i64 0, .int .i64 1048576] 31 (0, 0)) (by (with_reducible repeat (first | refine blk_drewN ?_ _ | refine blk_drew ?_ | refine blk_alloc ?_ _)); exact BK200.out) hg (Kd.R_away HO203.out (fun _ hk => hk.2)))
                              have n1_ := Aside0.mk (hb)
                              have n2_ := Aside0.mk (ho)
                              clear BK200
                              clear HB
                              clear HO203
                              have BK200 := n0_
                              have HB := n1_
                              have HO206 := n2_
                              clear n0_ n1_ n2_
                              clear ho hb hg hat
                              refine hK.out _ _ ⟨(blk_cell BK200.out 0).trans rfl, (blk_cell BK200.out 1).trans rfl, (blk_cell BK200.out 2).trans rfl, (blk_cell BK200.out 3).trans rfl⟩ (fun hHeld => ?_)
                              clear hK K
                              refine norm_ (a' := ?_) ?_ ?_
                              rotate_left
                              · show Act.put _ (some 63) _ = _
                                simp only [Act.put, List.setIfInBounds_toArray, List.set_cons_zero, List.set_cons_succ, i64_w, i32_w]
                                rfl
                              refine one_ (i := 5) (N := some 65) #[true, true, true, true, true, true, false, false, false, false, false, false, false, false, false] rfl rfl (one_of HT_.out (by kernel_rfl)) (by decide) (fun K hK => ?_)
                              refine Kd.R_lit_step k31 _ 31 ?hg (N := 65) ?hd (xs := ([(⟨a1, a2, 0, 1048576⟩ : S31)] : List (S31))) (inner := [.string a1, .string a2, .int .i64 0, .int .i64 1048576]) (ok := fun _ => True) (okp := fun _ => True) ?hr ?hp (fun _ hk => hk) trivial (Below.refl _ _) (Nat.le_refl _) (by simp) ?_; (case hd => rfl); (case hg => rfl); (case hr => first | (go_simp; done) | (go_simp; rfl)); (case hp => exact (Reps.c4 (show Kd.M k31 _ _ _ (⟨a1, a2, 0, 1048576⟩ : S31) [.string a1, .string a2, .int .i64 0, .int .i64 1048576] from (k31_mkM _ _ _ (⟨a1, a2, 0, 1048576⟩ : S31) )) (Reps.none _ _)))
                              intro v208 w56 ho57 hb hg_ hnew_
                              clear hg_ hnew_
                              (first | rw [← Ny207.out] at ho57 | (simp only [Int.reduceToNat] at ho57; rw [← Ny207.out] at ho57))
                              have n0_ := Aside0.mk (Kd.R_elder' (by (with_reducible repeat (first | apply Kd.R_alloc | apply Kd.R_drewN | apply Kd.R_drew)); exact HO206.out) (Kd.R_base ho57) hb)
                              have n1_ := Aside0.mk (Kd.R_lower (Kd.R_newB (Kd.R_new' ho57 (Kd.R_lt (by (with_reducible repeat (first | apply Kd.R_alloc | apply Kd.R_drewN | apply Kd.R_drew)); exact HO206.out))) (g := gb200) (o := .cells #[.string a1, .string a2, .int .i64 0, .int .i64 1048576] 31 (0, 0)) (by (with_reducible repeat (first | refine blk_drewN ?_ _ | refine blk_drew ?_ | refine blk_alloc ?_ _)); exact BK200.out)) (below_size (by repeat (first | (with_reducible first | exact HB.out | apply below_alloc | apply pw_below_drewN | apply below_drew1 | refine below_set ?_ GE200.out) | exact HB.out))))
                              have n2_ := Aside0.mk (blk_below (g := gb200) (o := .cells #[.string a1, .string a2, .int .i64 0, .int .i64 1048576] 31 (0, 0)) (by (with_reducible repeat (first | refine blk_drewN ?_ _ | refine blk_drew ?_ | refine blk_alloc ?_ _)); exact BK200.out) hb)
                              have n3_ := Aside0.mk (below_step (by repeat (first | (with_reducible first | exact HB.out | apply below_alloc | apply pw_below_drewN | apply below_drew1 | refine below_set ?_ GE200.out) | exact HB.out)) hb)
                              clear HO206
                              clear BK200
                              clear HB
                              have HO206 := n0_
                              have HO209 := n1_
                              have BK200 := n2_
                              have HB := n3_
                              clear n0_ n1_ n2_ n3_
                              clear hb ho57
                              refine hK.out _ _ ⟨(blk_cell BK200.out 0).trans rfl, (blk_cell BK200.out 1).trans rfl, (blk_cell BK200.out 2).trans rfl, (blk_cell BK200.out 3).trans rfl⟩ (fun hHeld => ?_)
                              clear hK K
                              refine norm_ (a' := ?_) ?_ ?_
                              rotate_left
                              · show Act.put _ (some 65) _ = _
                                simp only [Act.put, List.setIfInBounds_toArray, List.set_cons_zero, List.set_cons_succ, i64_w, i32_w]
                                rfl
                              exact norm_ (by simp only [putAll, Act.put, List.setIfInBounds_toArray, List.set_cons_zero, List.set_cons_succ]) (hCont (v202, v205, v208) _ ⟨hHeld, (by (with_reducible repeat (first | apply Kd.R_alloc | apply Kd.R_drewN | apply Kd.R_drew)); exact Kd.R_mono HO206.out (fun _ hk => ⟨hk.2, hk.1⟩)), (by (with_reducible repeat (first | apply Kd.R_alloc | apply Kd.R_drewN | apply Kd.R_drew)); exact Kd.R_mono HO209.out (fun _ hk => ⟨hk.1.2, hk.2⟩)), (by (with_reducible repeat (first | refine blk_drewN ?_ _ | refine blk_drew ?_ | refine blk_alloc ?_ _)); exact BK200.out), (by repeat (first | (with_reducible first | exact HB.out | apply below_alloc | apply pw_below_drewN | apply below_drew1 | refine below_set ?_ GE200.out) | exact HB.out))⟩)
                            · skip
                              refine Kd.R_lit_step k31 _ 31 ?hg (N := 65) ?hd (xs := ([(⟨a1, a2, 0, 1048576⟩ : S31)] : List (S31))) (inner := [.string a1, .string a2, .int .i64 0, .int .i64 1048576]) (ok := fun _ => True) (okp := fun _ => True) ?hr ?hp (fun _ hk => hk) trivial (Below.refl _ _) (Nat.le_refl _) (by simp) ?_; (case hd => rfl); (case hg => rfl); (case hr => first | (go_simp; done) | (go_simp; rfl)); (case hp => exact (Reps.c4 (show Kd.M k31 _ _ _ (⟨a1, a2, 0, 1048576⟩ : S31) [.string a1, .string a2, .int .i64 0, .int .i64 1048576] from (k31_mkM _ _ _ (⟨a1, a2, 0, 1048576⟩ : S31) )) (Reps.none _ _)))
                              intro v208 w55 ho56 hb hg_ hnew_
                              clear hg_ hnew_
                              (first | rw [← Ny207.out] at ho56 | (simp only [Int.reduceToNat] at ho56; rw [← Ny207.out] at ho56))
                              have n0_ := Aside0.mk (Kd.R_elder' (by (with_reducible repeat (first | apply Kd.R_alloc | apply Kd.R_drewN | apply Kd.R_drew)); exact HO203.out) (Kd.R_base ho56) hb)
                              have n1_ := Aside0.mk (Kd.R_lower (Kd.R_newB (Kd.R_new' ho56 (Kd.R_lt (by (with_reducible repeat (first | apply Kd.R_alloc | apply Kd.R_drewN | apply Kd.R_drew)); exact HO203.out))) (g := gb200) (o := .cells #[.string a1, .string a2, .int .i64 0, .int .i64 1048576] 31 (0, 0)) (by (with_reducible repeat (first | refine blk_drewN ?_ _ | refine blk_drew ?_ | refine blk_alloc ?_ _)); exact BK200.out)) (below_size (by repeat (first | (with_reducible first | exact HB.out | apply below_alloc | apply pw_below_drewN | apply below_drew1 | refine below_set ?_ GE200.out) | exact HB.out))))
                              have n2_ := Aside0.mk (blk_below (g := gb200) (o := .cells #[.string a1, .string a2, .int .i64 0, .int .i64 1048576] 31 (0, 0)) (by (with_reducible repeat (first | refine blk_drewN ?_ _ | refine blk_drew ?_ | refine blk_alloc ?_ _)); exact BK200.out) hb)
                              have n3_ := Aside0.mk (below_step (by repeat (first | (with_reducible first | exact HB.out | apply below_alloc | apply pw_below_drewN | apply below_drew1 | refine below_set ?_ GE200.out) | exact HB.out)) hb)
                              clear HO203
                              clear BK200
                              clear HB
                              have HO203 := n0_
                              have HO209 := n1_
                              have BK200 := n2_
                              have HB := n3_
                              clear n0_ n1_ n2_ n3_
                              clear hb ho56
                              refine hK.out _ _ ⟨(blk_cell BK200.out 0).trans rfl, (blk_cell BK200.out 1).trans rfl, (blk_cell BK200.out 2).trans rfl, (blk_cell BK200.out 3).trans rfl⟩ (fun hHeld => ?_)
                              clear hK K
                              refine norm_ (a' := ?_) ?_ ?_
                              rotate_left
                              · show Act.put _ (some 65) _ = _
                                simp only [Act.put, List.setIfInBounds_toArray, List.set_cons_zero, List.set_cons_succ, i64_w, i32_w]
                                rfl
                              refine one_ (i := 3) (N := some 63) #[true, true, true, true, true, true, false, false, false, false, false, false, false, false, false] rfl rfl (one_of HT_.out (by kernel_rfl)) (by decide) (fun K hK => ?_)
                              refine Kd.R_append_rows_step k31 (w0 := w) w.heap.size (by rfl) (.tmp 61) (.tmp 62) 22 31 (.agg #[(.string ⟨#[]⟩), (.string ⟨#[]⟩), (.int .i64 0), (.int .i64 0)]) 48 rfl Try.underlying22 info31 rfl (by decide) (by omega) v202 y201 l3 _ _ _ (fun k_ => some k_ ≠ (v208 : Value).ownBlock ∧ k_ ≠ gb200) (fun _ => False) rfl rfl ?aO ?aR (fun _ _ h => h) (fun _ h => h.elim) ?aF ?aB ?aS ?aL ?_
                              (case aR => repeat (first | exact (Kd.C_below HR3.out HB.out) | (with_reducible refine Kd.C_alloc ?_ _) | (with_reducible refine Kd.C_drewN ?_ _) | (with_reducible refine Kd.C_drew ?_)))
                              (case aB => exact (by repeat (first | (with_reducible first | exact HB.out | apply below_alloc | apply pw_below_drewN | apply below_drew1 | refine below_set ?_ GE200.out) | exact HB.out)))
                              (case aF => exact (fun k_ hk => ⟨Kd.fresh' (Kd.R_lt (by (with_reducible repeat (first | apply Kd.R_alloc | apply Kd.R_drewN | apply Kd.R_drew)); exact HO209.out)) k_ hk, Kd.freshB (g := gb200) (o := .cells #[.string a1, .string a2, .int .i64 0, .int .i64 1048576] 31 (0, 0)) (by (with_reducible repeat (first | refine blk_drewN ?_ _ | refine blk_drew ?_ | refine blk_alloc ?_ _)); exact BK200.out) k_ hk⟩))
                              (case aO => exact (by (with_reducible repeat (first | apply Kd.R_alloc | apply Kd.R_drewN | apply Kd.R_drew)); exact Kd.R_mono HO203.out (fun _ hk => ⟨hk.2, hk.1.2⟩)))
                              (case aS => exact (below_size (by repeat (first | (with_reducible first | exact HB.out | apply below_alloc | apply pw_below_drewN | apply below_drew1 | refine below_set ?_ GE200.out) | exact HB.out))))
                              (case aL => have := LMc27.out; omega)
                              intro v205 w57 ho hb hg hat
                              rw [← Ny204.out] at ho
                              have n0_ := Aside0.mk (blk_grown (g := gb200) (o := .cells #[.string a1, .string a2, .int .i64 0, .int .i64 1048576] 31 (0, 0)) (by (with_reducible repeat (first | refine blk_drewN ?_ _ | refine blk_drew ?_ | refine blk_alloc ?_ _)); exact BK200.out) hg (Kd.R_away HO203.out (fun _ hk => hk.1.2)))
                              have n1_ := Aside0.mk (Kd.R_after (ok := (fun k_ => k_ ≠ gb200)) (by (with_reducible repeat (first | apply Kd.R_alloc | apply Kd.R_drewN | apply Kd.R_drew)); exact Kd.R_mono HO209.out (fun _ hk => ⟨hk.2, hk.1.2⟩)) hg hat)
                              have n2_ := Aside0.mk (hb)
                              have n3_ := Aside0.mk (ho)
                              clear BK200
                              clear HO209
                              clear HB
                              clear HO203
                              have BK200 := n0_
                              have HO209 := n1_
                              have HB := n2_
                              have HO206 := n3_
                              clear n0_ n1_ n2_ n3_
                              clear ho hb hg hat
                              refine hK.out _ _ ⟨(blk_cell BK200.out 0).trans rfl, (blk_cell BK200.out 1).trans rfl, (blk_cell BK200.out 2).trans rfl, (blk_cell BK200.out 3).trans rfl⟩ (fun hHeld => ?_)
                              clear hK K
                              refine norm_ (a' := ?_) ?_ ?_
                              rotate_left
                              · show Act.put _ (some 63) _ = _
                                simp only [Act.put, List.setIfInBounds_toArray, List.set_cons_zero, List.set_cons_succ, i64_w, i32_w]
                                rfl
                              exact norm_ (by simp only [putAll, Act.put, List.setIfInBounds_toArray, List.set_cons_zero, List.set_cons_succ]) (hCont (v202, v205, v208) _ ⟨hHeld, (by (with_reducible repeat (first | apply Kd.R_alloc | apply Kd.R_drewN | apply Kd.R_drew)); exact HO206.out), (by (with_reducible repeat (first | apply Kd.R_alloc | apply Kd.R_drewN | apply Kd.R_drew)); exact Kd.R_mono HO209.out (fun _ hk => ⟨hk.2, hk.1⟩)), (by (with_reducible repeat (first | refine blk_drewN ?_ _ | refine blk_drew ?_ | refine blk_alloc ?_ _)); exact BK200.out), (by repeat (first | (with_reducible first | exact HB.out | apply below_alloc | apply pw_below_drewN | apply below_drew1 | refine below_set ?_ GE200.out) | exact HB.out))⟩)
                          · skip
                            refine Kd.R_lit_step k31 _ 31 ?hg (N := 65) ?hd (xs := ([(⟨a1, a2, 0, 1048576⟩ : S31)] : List (S31))) (inner := [.string a1, .string a2, .int .i64 0, .int .i64 1048576]) (ok := fun _ => True) (okp := fun _ => True) ?hr ?hp (fun _ hk => hk) trivial (Below.refl _ _) (Nat.le_refl _) (by simp) ?_; (case hd => rfl); (case hg => rfl); (case hr => first | (go_simp; done) | (go_simp; rfl)); (case hp => exact (Reps.c4 (show Kd.M k31 _ _ _ (⟨a1, a2, 0, 1048576⟩ : S31) [.string a1, .string a2, .int .i64 0, .int .i64 1048576] from (k31_mkM _ _ _ (⟨a1, a2, 0, 1048576⟩ : S31) )) (Reps.none _ _)))
                            intro v208 w53 ho54 hb hg_ hnew_
                            clear hg_ hnew_
                            (first | rw [← Ny207.out] at ho54 | (simp only [Int.reduceToNat] at ho54; rw [← Ny207.out] at ho54))
                            have n0_ := Aside0.mk (Kd.R_lower (Kd.R_newB ho54 (g := gb200) (o := .cells #[.string a1, .string a2, .int .i64 0, .int .i64 1048576] 31 (0, 0)) (by (with_reducible repeat (first | refine blk_drewN ?_ _ | refine blk_drew ?_ | refine blk_alloc ?_ _)); exact BK200.out)) (below_size (by repeat (first | (with_reducible first | exact HB.out | apply below_alloc | apply pw_below_drewN | apply below_drew1 | refine below_set ?_ GE200.out) | exact HB.out))))
                            have n1_ := Aside0.mk (blk_below (g := gb200) (o := .cells #[.string a1, .string a2, .int .i64 0, .int .i64 1048576] 31 (0, 0)) (by (with_reducible repeat (first | refine blk_drewN ?_ _ | refine blk_drew ?_ | refine blk_alloc ?_ _)); exact BK200.out) hb)
                            have n2_ := Aside0.mk (below_step (by repeat (first | (with_reducible first | exact HB.out | apply below_alloc | apply pw_below_drewN | apply below_drew1 | refine below_set ?_ GE200.out) | exact HB.out)) hb)
                            clear BK200
                            clear HB
                            have HO209 := n0_
                            have BK200 := n1_
                            have HB := n2_
                            clear n0_ n1_ n2_
                            clear hb ho54
                            refine hK.out _ _ ⟨(blk_cell BK200.out 0).trans rfl, (blk_cell BK200.out 1).trans rfl, (blk_cell BK200.out 2).trans rfl, (blk_cell BK200.out 3).trans rfl⟩ (fun hHeld => ?_)
                            clear hK K
                            refine norm_ (a' := ?_) ?_ ?_
                            rotate_left
                            · show Act.put _ (some 65) _ = _
                              simp only [Act.put, List.setIfInBounds_toArray, List.set_cons_zero, List.set_cons_succ, i64_w, i32_w]
                              rfl
                            refine one_ (i := 1) (N := some 61) #[true, true, true, false, true, true, false, false, false, false, false, false, false, false, false] rfl rfl (one_of HT_.out (by kernel_rfl)) (by decide) (fun K hK => ?_)
                            refine Kd.R_lit_step k31 _ 31 ?hg (N := 61) ?hd (xs := ([] : List (S31))) (inner := []) (ok := fun _ => True) (okp := fun _ => True) ?hr ?hp (fun _ hk => hk) trivial (Below.refl _ _) (Nat.le_refl _) (by simp) ?_; (case hd => rfl); (case hg => rfl); (case hr => first | (go_simp; done) | (go_simp; rfl)); (case hp => exact (Reps.none _ _))
                            intro v202 w55 ho56 hb hg_ hnew_
                            clear hg_ hnew_
                            (first | rw [← Ny201.out] at ho56 | (simp only [Int.reduceToNat] at ho56; rw [← Ny201.out] at ho56))
                            have n0_ := Aside0.mk (Kd.R_elder' (by (with_reducible repeat (first | apply Kd.R_alloc | apply Kd.R_drewN | apply Kd.R_drew)); exact HO209.out) (Kd.R_base ho56) hb)
                            have n1_ := Aside0.mk (Kd.R_lower (Kd.R_newB (Kd.R_new' ho56 (Kd.R_lt (by (with_reducible repeat (first | apply Kd.R_alloc | apply Kd.R_drewN | apply Kd.R_drew)); exact HO209.out))) (g := gb200) (o := .cells #[.string a1, .string a2, .int .i64 0, .int .i64 1048576] 31 (0, 0)) (by (with_reducible repeat (first | refine blk_drewN ?_ _ | refine blk_drew ?_ | refine blk_alloc ?_ _)); exact BK200.out)) (below_size (by repeat (first | (with_reducible first | exact HB.out | apply below_alloc | apply pw_below_drewN | apply below_drew1 | refine below_set ?_ GE200.out) | exact HB.out))))
                            have n2_ := Aside0.mk (blk_below (g := gb200) (o := .cells #[.string a1, .string a2, .int .i64 0, .int .i64 1048576] 31 (0, 0)) (by (with_reducible repeat (first | refine blk_drewN ?_ _ | refine blk_drew ?_ | refine blk_alloc ?_ _)); exact BK200.out) hb)
                            have n3_ := Aside0.mk (below_step (by repeat (first | (with_reducible first | exact HB.out | apply below_alloc | apply pw_below_drewN | apply below_drew1 | refine below_set ?_ GE200.out) | exact HB.out)) hb)
                            clear HO209
                            clear BK200
                            clear HB
                            have HO209 := n0_
                            have HO203 := n1_
                            have BK200 := n2_
                            have HB := n3_
                            clear n0_ n1_ n2_ n3_
                            clear hb ho56
                            refine hK.out _ _ ⟨(blk_cell BK200.out 0).trans rfl, (blk_cell BK200.out 1).trans rfl, (blk_cell BK200.out 2).trans rfl, (blk_cell BK200.out 3).trans rfl⟩ (fun hHeld => ?_)
                            clear hK K
                            refine norm_ (a' := ?_) ?_ ?_
                            rotate_left
                            · show Act.put _ (some 61) _ = _
                              simp only [Act.put, List.setIfInBounds_toArray, List.set_cons_zero, List.set_cons_succ, i64_w, i32_w]
                              rfl
                            refine one_ (i := 3) (N := some 63) #[true, true, true, true, true, true, false, false, false, false, false, false, false, false, false] rfl rfl (one_of HT_.out (by kernel_rfl)) (by decide) (fun K hK => ?_)
                            refine Kd.R_append_rows_step k31 (w0 := w) w.heap.size (by rfl) (.tmp 61) (.tmp 62) 22 31 (.agg #[(.string ⟨#[]⟩), (.string ⟨#[]⟩), (.int .i64 0), (.int .i64 0)]) 48 rfl Try.underlying22 info31 rfl (by decide) (by omega) v202 y201 l3 _ _ _ (fun k_ => some k_ ≠ (v208 : Value).ownBlock ∧ k_ ≠ gb200) (fun _ => False) rfl rfl ?aO ?aR (fun _ _ h => h) (fun _ h => h.elim) ?aF ?aB ?aS ?aL ?_
                            (case aR => repeat (first | exact (Kd.C_below HR3.out HB.out) | (with_reducible refine Kd.C_alloc ?_ _) | (with_reducible refine Kd.C_drewN ?_ _) | (with_reducible refine Kd.C_drew ?_)))
                            (case aB => exact (by repeat (first | (with_reducible first | exact HB.out | apply below_alloc | apply pw_below_drewN | apply below_drew1 | refine below_set ?_ GE200.out) | exact HB.out)))
                            (case aF => exact (fun k_ hk => ⟨Kd.fresh' (Kd.R_lt (by (with_reducible repeat (first | apply Kd.R_alloc | apply Kd.R_drewN | apply Kd.R_drew)); exact HO209.out)) k_ hk, Kd.freshB (g := gb200) (o := .cells #[.string a1, .string a2, .int .i64 0, .int .i64 1048576] 31 (0, 0)) (by (with_reducible repeat (first | refine blk_drewN ?_ _ | refine blk_drew ?_ | refine blk_alloc ?_ _)); exact BK200.out) k_ hk⟩))
                            (case aO => exact (by (with_reducible repeat (first | apply Kd.R_alloc | apply Kd.R_drewN | apply Kd.R_drew)); exact Kd.R_mono HO203.out (fun _ hk => ⟨hk.1.2, hk.2⟩)))
                            (case aS => exact (below_size (by repeat (first | (with_reducible first | exact HB.out | apply below_alloc | apply pw_below_drewN | apply below_drew1 | refine below_set ?_ GE200.out) | exact HB.out))))
                            (case aL => have := LMc27.out; omega)
                            intro v205 w57 ho hb hg hat
                            rw [← Ny204.out] at ho
                            have n0_ := Aside0.mk (blk_grown (g := gb200) (o := .cells #[.string a1, .string a2, .int .i64 0, .int .i64 1048576] 31 (0, 0)) (by (with_reducible repeat (first | refine blk_drewN ?_ _ | refine blk_drew ?_ | refine blk_alloc ?_ _)); exact BK200.out) hg (Kd.R_away HO203.out (fun _ hk => hk.2)))
                            have n1_ := Aside0.mk (Kd.R_after (ok := (fun k_ => k_ ≠ gb200)) (by (with_reducible repeat (first | apply Kd.R_alloc | apply Kd.R_drewN | apply Kd.R_drew)); exact Kd.R_mono HO209.out (fun _ hk => ⟨hk.1.2, hk.2⟩)) hg hat)
                            have n2_ := Aside0.mk (hb)
                            have n3_ := Aside0.mk (ho)
                            clear BK200
                            clear HO209
                            clear HB
                            clear HO203
                            have BK200 := n0_
                            have HO209 := n1_
                            have HB := n2_
                            have HO206 := n3_
                            clear n0_ n1_ n2_ n3_
                            clear ho hb hg hat
                            refine hK.out _ _ ⟨(blk_cell BK200.out 0).trans rfl, (blk_cell BK200.out 1).trans rfl, (blk_cell BK200.out 2).trans rfl, (blk_cell BK200.out 3).trans rfl⟩ (fun hHeld => ?_)
                            clear hK K
                            refine norm_ (a' := ?_) ?_ ?_
                            rotate_left
                            · show Act.put _ (some 63) _ = _
                              simp only [Act.put, List.setIfInBounds_toArray, List.set_cons_zero, List.set_cons_succ, i64_w, i32_w]
                              rfl
                            exact norm_ (by simp only [putAll, Act.put, List.setIfInBounds_toArray, List.set_cons_zero, List.set_cons_succ]) (hCont (v202, v205, v208) _ ⟨hHeld, (by (with_reducible repeat (first | apply Kd.R_alloc | apply Kd.R_drewN | apply Kd.R_drew)); exact HO206.out), (by (with_reducible repeat (first | apply Kd.R_alloc | apply Kd.R_drewN | apply Kd.R_drew)); exact Kd.R_mono HO209.out (fun _ hk => ⟨hk.2, hk.1⟩)), (by (with_reducible repeat (first | refine blk_drewN ?_ _ | refine blk_drew ?_ | refine blk_alloc ?_ _)); exact BK200.out), (by repeat (first | (with_reducible first | exact HB.out | apply below_alloc | apply pw_below_drewN | apply below_drew1 | refine below_set ?_ GE200.out) | exact HB.out))⟩)
                        rintro ⟨v202, v205, v208⟩ w58 ⟨hS_, h0_, h1_, h2_, h3_⟩
                        have n0_ : Aside0 (Kd.R k31 31 w58 w.heap.size (fun k_ => some k_ ≠ (v208 : Value).ownBlock ∧ k_ ≠ gb200) v205 y204) := ⟨h0_⟩
                        have n1_ : Aside0 (Kd.R k31 31 w58 w.heap.size (fun k_ => some k_ ≠ (v205 : Value).ownBlock ∧ k_ ≠ gb200) v208 y207) := ⟨h1_⟩
                        have n2_ : Aside0 (w58.heap[gb200]? = some (.cells #[.string a1, .string a2, .int .i64 0, .int .i64 1048576] 31 (0, 0))) := ⟨h2_⟩
                        have n3_ : Aside0 (Below w.heap.size w w58) := ⟨h3_⟩
                        clear BK200
                        clear HB
                        clear h0_ h1_ h2_ h3_
                        have HO206 := n0_
                        have HO209 := n1_
                        have BK200 := n2_
                        have HB := n3_
                        clear n0_ n1_ n2_ n3_
                        have hHeld : w58.cell? ⟨gb200, 0, none⟩ = some (.string a1) ∧ w58.cell? ⟨gb200, 1, none⟩ = some (.string a2) ∧ w58.cell? ⟨gb200, 2, none⟩ = some (.int .i64 0) ∧ w58.cell? ⟨gb200, 3, none⟩ = some (.int .i64 1048576) := hS_
                        obtain ⟨Ao60, co60, eo60⟩ := Kd.R_slice HO209.out
                        (first | subst eo60 | (injection eo60 with f1_ f2_ f3_; have f4_ := f1_.symm; have f5_ := f3_.symm; clear f1_ f2_ f3_; subst f4_; subst f5_))
                        refine norm_ (a' := ?_) ?_ ?_
                        rotate_left
                        · simp only [putAll, Act.put, List.setIfInBounds_toArray, List.set_cons_zero, List.set_cons_succ]
                          rfl
                        refine one_ (i := 6) (N := some 66) #[true, true, true, true, true, true, true, false, false, false, false, false, false, false, false] rfl rfl (one_of HT_.out (by kernel_rfl)) (by decide) (fun K hK => ?_)
                        refine Kd.R_append_rows_step k31 (w0 := w) w.heap.size (by rfl) (.tmp 63) (.tmp 65) 22 31 (.agg #[(.string ⟨#[]⟩), (.string ⟨#[]⟩), (.int .i64 0), (.int .i64 0)]) 48 rfl Try.underlying22 info31 rfl (by decide) (by omega) v205 y204 y207 _ _ _ (fun k_ => some k_ ≠ (.slice Ao60 y207.length co60 : Value).ownBlock ∧ k_ ≠ gb200) (fun _ => False) rfl rfl ?aO ?aR (fun _ _ h => h) (fun _ h => h.elim) ?aF ?aB ?aS ?aL ?_
                        (case aR => repeat (first | exact (Kd.R_reads' HO209.out).2.2 | (with_reducible refine Kd.C_alloc ?_ _) | (with_reducible refine Kd.C_drewN ?_ _) | (with_reducible refine Kd.C_drew ?_)))
                        (case aB => exact (by repeat (first | (with_reducible first | exact HB.out | apply below_alloc | apply pw_below_drewN | apply below_drew1 | refine below_set ?_ GE200.out) | exact HB.out)))
                        (case aF => exact (fun k_ hk => ⟨Kd.fresh' (Kd.R_lt (by (with_reducible repeat (first | apply Kd.R_alloc | apply Kd.R_drewN | apply Kd.R_drew)); exact HO209.out)) k_ hk, Kd.freshB (g := gb200) (o := .cells #[.string a1, .string a2, .int .i64 0, .int .i64 1048576] 31 (0, 0)) (by (with_reducible repeat (first | refine blk_drewN ?_ _ | refine blk_drew ?_ | refine blk_alloc ?_ _)); exact BK200.out) k_ hk⟩))
                        (case aO => exact (by (with_reducible repeat (first | apply Kd.R_alloc | apply Kd.R_drewN | apply Kd.R_drew)); exact HO206.out))
                        (case aS => exact (below_size (by repeat (first | (with_reducible first | exact HB.out | apply below_alloc | apply pw_below_drewN | apply below_drew1 | refine below_set ?_ GE200.out) | exact HB.out))))
                        (case aL => have := LMc28.out; omega)
                        intro v211 w59 ho hb hg hat
                        rw [← Ny210.out] at ho
                        have n0_ := Aside0.mk (blk_grown (g := gb200) (o := .cells #[.string a1, .string a2, .int .i64 0, .int .i64 1048576] 31 (0, 0)) (by (with_reducible repeat (first | refine blk_drewN ?_ _ | refine blk_drew ?_ | refine blk_alloc ?_ _)); exact BK200.out) hg (Kd.R_away HO206.out (fun _ hk => hk.2)))
                        have n1_ := Aside0.mk (Kd.R_after (ok := (fun k_ => k_ ≠ gb200)) (by (with_reducible repeat (first | apply Kd.R_alloc | apply Kd.R_drewN | apply Kd.R_drew)); exact Kd.R_mono HO209.out (fun _ hk => ⟨hk.2, hk.1⟩)) hg hat)
                        have n2_ := Aside0.mk (hb)
                        have n3_ := Aside0.mk (ho)
                        clear BK200
                        clear HO209
                        clear HB
                        clear HO206
                        have BK200 := n0_
                        have HO209 := n1_
                        have HB := n2_
                        have HO212 := n3_
                        clear n0_ n1_ n2_ n3_
                        clear ho hb hg hat
                        obtain ⟨Ao61, co61, eo61⟩ := Kd.R_slice HO212.out
                        (first | subst eo61 | (injection eo61 with f1_ f2_ f3_; have f4_ := f1_.symm; have f5_ := f3_.symm; clear f1_ f2_ f3_; subst f4_; subst f5_))
                        refine hK.out _ _ ⟨(blk_cell BK200.out 0).trans rfl, (blk_cell BK200.out 1).trans rfl, (blk_cell BK200.out 2).trans rfl, (blk_cell BK200.out 3).trans rfl⟩ (fun hHeld => ?_)
                        clear hK K
                        refine norm_ (a' := ?_) ?_ ?_
                        rotate_left
                        · show Act.put _ (some 66) _ = _
                          simp only [Act.put, List.setIfInBounds_toArray, List.set_cons_zero, List.set_cons_succ, i64_w, i32_w]
                          rfl
                        refine one_ (i := 7) (N := some 67) #[true, true, true, true, true, true, true, true, false, false, false, false, false, false, false] rfl rfl (one_of HT_.out (by kernel_rfl)) (by decide) (fun K hK => ?_)
                        refine goes_ Try.func11 (by kernel_rfl) rfl #[.string a0, .slice Ao61 y210.length co61] (by rfl) rfl rfl (by (try simp only [List.map_toArray, List.map_cons, List.map_nil]); first | done | rfl | (simp only [List.length_drop, List.length_take]; rfl)) ?_
                        with_reducible refine (endorse_Check.calls kj18 a0 _ _ y210 t213 t214 t215 _ ?side1 ?side2 A29.out).mono ?_
                        (case side1 => repeat (first | exact (Kd.R_reads' HO212.out).2.2 | (with_reducible refine Kd.C_alloc ?_ _) | (with_reducible refine Kd.C_drewN ?_ _) | (with_reducible refine Kd.C_drew ?_)))
                        (case side2 => exact (Kd.R_reads' HO212.out).2.1)
                        rintro e w62 ⟨rfl, hb⟩
                        refine ⟨_, rfl, ?_⟩
                        have n0_ := Aside0.mk (Kd.R_below (by (with_reducible repeat (first | apply Kd.R_alloc | apply Kd.R_drewN | apply Kd.R_drew)); exact HO209.out) hb)
                        have n1_ := Aside0.mk (Kd.R_below (by (with_reducible repeat (first | apply Kd.R_alloc | apply Kd.R_drewN | apply Kd.R_drew)); exact HO212.out) hb)
                        have n2_ := Aside0.mk (blk_below (g := gb200) (o := .cells #[.string a1, .string a2, .int .i64 0, .int .i64 1048576] 31 (0, 0)) (by (with_reducible repeat (first | refine blk_drewN ?_ _ | refine blk_drew ?_ | refine blk_alloc ?_ _)); exact BK200.out) hb)
                        have n3_ := Aside0.mk (below_step (by repeat (first | (with_reducible first | exact HB.out | apply below_alloc | apply pw_below_drewN | apply below_drew1 | refine below_set ?_ GE200.out) | exact HB.out)) hb)
                        clear HO209
                        clear HO212
                        clear BK200
                        clear HB
                        have HO209 := n0_
                        have HO212 := n1_
                        have BK200 := n2_
                        have HB := n3_
                        clear n0_ n1_ n2_ n3_
                        (try clear hb)
                        (try clear hb2)
                        (try clear hk)
                        (try clear hi)
                        refine hK.out _ _ ⟨(blk_cell BK200.out 0).trans rfl, (blk_cell BK200.out 1).trans rfl, (blk_cell BK200.out 2).trans rfl, (blk_cell BK200.out 3).trans rfl⟩ (fun hHeld => ?_)
                        clear hK K
                        refine norm_ (a' := ?_) ?_ ?_
                        rotate_left
                        · show Act.put _ (some 67) _ = _
                          simp only [Act.put, List.setIfInBounds_toArray, List.set_cons_zero, List.set_cons_succ, i64_w, i32_w]
                          rfl
                        refine pure_ (i := 8) (N := some 59) (v := ?_) (a' := ?_) #[true, true, true, true, true, true, true, true, true, false, false, false, false, false, false] rfl rfl (any_of HT_.out (by kernel_rfl)) (fun _ _ _ h => h) (Or.inl ⟨by rfl, ?_⟩) ?_ ?_
                        rotate_left
                        · intro w'
                          go_simp
                          with_reducible rfl
                        rotate_left
                        · simp only [Act.put, List.setIfInBounds_toArray, List.set_cons_zero, List.set_cons_succ, i64_w, i32_w]
                          rfl
                        refine pure_ (i := 9) (N := some 68) (v := ?_) (a' := ?_) #[true, true, true, true, true, true, true, true, true, true, false, false, false, false, false] rfl rfl (any_of HT_.out (by kernel_rfl)) (fun _ _ _ h => h) (Or.inl ⟨by rfl, ?_⟩) ?_ ?_
                        rotate_left
                        · intro w'
                          go_simp
                          with_reducible rfl
                        rotate_left
                        · simp only [Act.put, List.setIfInBounds_toArray, List.set_cons_zero, List.set_cons_succ, i64_w, i32_w]
                          rfl
                        refine pure_ (i := 10) (N := some 69) (v := ?_) (a' := ?_) #[true, true, true, true, true, true, true, true, true, true, true, false, false, false, false] rfl rfl (any_of HT_.out (by kernel_rfl)) (fun _ _ _ h => h) (Or.inl ⟨by rfl, ?_⟩) ?_ ?_
                        rotate_left
                        · intro w'
                          go_simp
                          with_reducible rfl
                        rotate_left
                        · simp only [Act.put, List.setIfInBounds_toArray, List.set_cons_zero, List.set_cons_succ, i64_w, i32_w]
                          rfl
                        refine pure_ (i := 11) (N := some 70) (v := ?_) (a' := ?_) #[true, true, true, true, true, true, true, true, true, true, true, true, false, false, false] rfl rfl (any_of HT_.out (by kernel_rfl)) (fun _ _ _ h => h) (Or.inl ⟨by rfl, ?_⟩) ?_ ?_
                        rotate_left
                        · intro w'
                          go_simp
                          with_reducible rfl
                        rotate_left
                        · simp only [Act.put, List.setIfInBounds_toArray, List.set_cons_zero, List.set_cons_succ, i64_w, i32_w]
                          rfl
                        refine pure_ (i := 12) (N := some 11) (v := ?_) (a' := ?_) #[true, true, true, true, true, true, true, true, true, true, true, true, true, false, false] rfl rfl (any_of HT_.out (by kernel_rfl)) (fun _ _ _ h => h) (Or.inl ⟨by rfl, ?_⟩) ?_ ?_
                        rotate_left
                        · intro w'
                          go_simp
                          with_reducible rfl
                        rotate_left
                        · simp only [Act.put, List.setIfInBounds_toArray, List.set_cons_zero, List.set_cons_succ, i64_w, i32_w]
                          rfl
                        refine pure_ (i := 13) (N := some 12) (v := ?_) (a' := ?_) #[true, true, true, true, true, true, true, true, true, true, true, true, true, true, false] rfl rfl (any_of HT_.out (by kernel_rfl)) (fun _ _ _ h => h) (Or.inl ⟨by rfl, ?_⟩) ?_ ?_
                        rotate_left
                        · intro w'
                          go_simp
                          with_reducible rfl
                        rotate_left
                        · simp only [Act.put, List.setIfInBounds_toArray, List.set_cons_zero, List.set_cons_succ, i64_w, i32_w]
                          rfl
                        refine pure_ (i := 14) (N := some 13) (v := ?_) (a' := ?_) #[true, true, true, true, true, true, true, true, true, true, true, true, true, true, true] rfl rfl (any_of HT_.out (by kernel_rfl)) (fun _ _ _ h => h) (Or.inl ⟨by rfl, ?_⟩) ?_ ?_
                        rotate_left
                        · intro w'
                          go_simp
                          with_reducible rfl
                        rotate_left
                        · simp only [Act.put, List.setIfInBounds_toArray, List.set_cons_zero, List.set_cons_succ, i64_w, i32_w]
                          rfl
                        refine done_ (done_of HT_.out (by kernel_rfl)) ?_
                        go_upto_region 14 with (fail)
                        go_cut [8] (fun v8 wc => ∃ (kq : Nat) (x8_47 : Bool), v8 = .bool x8_47 ∧ Aside0 (supercargolaw22_EndorseMay.j3 kq x8_47 = some r) ∧ Aside0 (kq ≤ kj18) ∧ Aside0 (wc.heap[gb200]? = some (.cells #[.string a1, .string a2, .int .i64 0, .int .i64 1048576] 31 (0, 0))) ∧ Aside0 (Below w.heap.size w wc))
                        case first =>
                          have H := HC48.out
                          clear HC48
                          by_cases c63 : t215 = 0
                          · rw [if_pos c63] at H
                            have c63b0 : (t215 == 0) = true := beq_iff_eq.mpr c63
                            have c63b1 : (t215 != 0) = false := bne_eq_false_iff_eq.mpr c63
                            clear c63
                            (first | rw [c63b0] | (simp only [i64_w, i32_w]; rw [c63b0]) | skip)
                            have H' := Aside0.mk H
                            clear H
                            go_wp2
                            go_meet
                            case rel => exact ⟨_, (false), (by first | rfl | (simp; done) | (simp [*]; done)), H', ⟨by have := HJ6.out; have := HJ18.out; first | omega | exact Nat.le_refl _⟩, ⟨by (with_reducible repeat (first | refine blk_drewN ?_ _ | refine blk_drew ?_ | refine blk_alloc ?_ _)); exact BK200.out⟩, ⟨by repeat (first | (with_reducible first | exact HB.out | apply below_alloc | apply pw_below_drewN | apply below_drew1 | refine below_set ?_ GE200.out) | exact HB.out)⟩⟩
                          · rw [if_neg c63] at H
                            have c63b0 : (t215 == 0) = false := beq_eq_false_iff_ne.mpr c63
                            have c63b1 : (t215 != 0) = true := bne_iff_ne.mpr c63
                            (first | rw [c63b0] | (simp only [i64_w, i32_w]; rw [c63b0]) | skip)
                            by_cases c64 : t213.toList = ([] : List UInt8)
                            · rw [if_pos c64] at H
                              have c64b0 : (t213.toList == ([] : List UInt8)) = true := beq_iff_eq.mpr c64
                              have c64b1 : (t213.toList != ([] : List UInt8)) = false := bne_eq_false_iff_eq.mpr c64
                              clear c64
                              have H' := Aside0.mk H
                              clear H
                              go_wp2
                              go_meet
                              case rel => exact ⟨_, (decide (t214 ≤ (l3.length : Int))), (by first | rfl | (simp; done) | (simp [*]; done)), H', ⟨by have := HJ6.out; have := HJ18.out; first | omega | exact Nat.le_refl _⟩, ⟨by (with_reducible repeat (first | refine blk_drewN ?_ _ | refine blk_drew ?_ | refine blk_alloc ?_ _)); exact BK200.out⟩, ⟨by repeat (first | (with_reducible first | exact HB.out | apply below_alloc | apply pw_below_drewN | apply below_drew1 | refine below_set ?_ GE200.out) | exact HB.out)⟩⟩
                            · rw [if_neg c64] at H
                              have c64b0 : (t213.toList == ([] : List UInt8)) = false := beq_eq_false_iff_ne.mpr c64
                              have c64b1 : (t213.toList != ([] : List UInt8)) = true := bne_iff_ne.mpr c64
                              have H' := Aside0.mk H
                              clear H
                              go_wp2
                              go_meet
                              case rel => exact ⟨_, (false), (by first | rfl | (simp; done) | (simp [*]; done)), H', ⟨by have := HJ6.out; have := HJ18.out; first | omega | exact Nat.le_refl _⟩, ⟨by (with_reducible repeat (first | refine blk_drewN ?_ _ | refine blk_drew ?_ | refine blk_alloc ?_ _)); exact BK200.out⟩, ⟨by repeat (first | (with_reducible first | exact HB.out | apply below_alloc | apply pw_below_drewN | apply below_drew1 | refine below_set ?_ GE200.out) | exact HB.out)⟩⟩
                        case rest =>
                          clear HC48
                          try clear c1
                          try clear c2
                          try clear p2
                          try clear c3
                          try clear c4
                          try clear c6
                          try clear p6
                          try clear c7
                          try clear c8
                          try clear c10
                          try clear c11
                          try clear c11b0
                          try clear c11b1
                          try clear c12
                          try clear c12b0
                          try clear c12b1
                          try clear c13
                          try clear c14
                          try clear c16
                          try clear c16b0
                          try clear c16b1
                          try clear c16b2
                          try clear c23
                          try clear c24
                          try clear c24b0
                          try clear c24b1
                          try clear c26
                          try clear c27
                          try clear c28
                          try clear c30
                          try clear c46
                          try clear c46b0
                          try clear c46b1
                          try clear c47
                          try clear c47b0
                          try clear c47b1
                          try clear c63
                          try clear c63b0
                          try clear c63b1
                          try clear c64
                          try clear c64b0
                          try clear c64b1
                          try clear p64
                          try clear hcz33_0
                          try clear hcz33_1
                          try clear hcz33_2
                          try clear hcz33_3
                          try clear hcz50_0
                          try clear hcz50_1
                          try clear hcz50_2
                          try clear hcz50_3
                          try clear hfz33_0
                          try clear hfz33_1
                          try clear hfz33_2
                          try clear hfz33_3
                          try clear hfz50_0
                          try clear hfz50_1
                          try clear hfz50_2
                          try clear hfz50_3
                          try clear p2
                          try clear p6
                          obtain ⟨kq, x8_47, rfl, HA, HJ47, BK200, HB⟩ := hcut
                          cases kq with
                          | zero => exact absurd HA.out (by simp [supercargolaw22_EndorseMay.j3])
                          | succ kj47 =>
                            have H := HA.out
                            clear HA
                            simp only [supercargolaw22_EndorseMay.j3] at H
                            obtain rfl := Option.some.inj H
                            go_wp2
                            go_ret
                            exact ⟨by first | rfl | (simp [errW_none, errW_some] <;> rfl) | (simp [*, errW_none, errW_some] <;> rfl), by repeat (first | (with_reducible first | exact HB.out | apply below_alloc | apply pw_below_drewN | apply below_drew1 | refine below_set ?_ GE200.out) | exact HB.out)⟩
                    · rw [if_neg c28] at H
                      exact absurd H (by simp)
                  · rw [if_neg c27] at H
                    exact absurd H (by simp)
  · replace c6 := Bool.eq_false_iff.mpr c6
    subst c6
    have H1 : (some false) = some r := by rw [if_neg (show ¬ (false = true) by decide)] at H; exact H
    clear H
    have H := H1
    clear H1
    obtain rfl := Option.some.inj H
    go_enter Try.func4, Try.ntmps4
    go_wp2_with (first | ((with_reducible refine gate_callee (f := 7) rfl ?_); refine goesL_ (some 14) rfl rfl Try.func7 (by kernel_rfl) rfl #[] rfl (by (try simp only [List.map_toArray, List.map_cons, List.map_nil]); first | done | rfl | (simp only [List.length_drop, List.length_take]; rfl)) ?_; (with_reducible refine (supercargolaw22_awake.calls k  false _ A5.out).mono ?_); rintro e w65 ⟨rfl, hb⟩; refine ⟨_, rfl, ?_⟩; have n0_ := Aside0.mk (below_step (by repeat (first | (with_reducible first | exact HB.out | apply below_alloc | apply pw_below_drewN | apply below_drew1) | exact HB.out)) hb); clear HB; have HB := n0_; clear n0_; (try clear hb); (try clear hb2); (try clear hk); (try clear hi)))
    go_ret
    exact ⟨by first | rfl | (simp [errW_none, errW_some] <;> rfl) | (simp [*, errW_none, errW_some] <;> rfl), by repeat (first | (with_reducible first | exact HB.out | apply below_alloc | apply pw_below_drewN | apply below_drew1) | exact HB.out)⟩

end Go.Proofs.Ytjmbglgchmhahaa.P
