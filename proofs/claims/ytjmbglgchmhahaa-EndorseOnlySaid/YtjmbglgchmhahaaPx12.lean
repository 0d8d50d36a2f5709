-- Written by the session's own program xprint.py, which runs the kit's print over functions given by hand.
import Derived.Test.YtjmbglgchmhahaaPx0
import Derived.Test.YtjmbglgchmhahaaPx5
import Derived.Test.YtjmbglgchmhahaaPx7
import Derived.Test.YtjmbglgchmhahaaPx9
namespace Go.Proofs.Ytjmbglgchmhahaa.P
open Go.RowKit Go.Proofs.YtjmbglgchmhahaaW.PrintWords Go.Proofs.YtjmbglgchmhahaaW.PrintLast Go.Proofs.YtjmbglgchmhahaaW.PrintMore
attribute [local go_sem] max2_int min2_int max_two min_two max_three min_three max_four min_four   -- for this text's walks alone
set_option linter.unusedVariables false
set_option linter.unusedSimpArgs false

/-! ### supercargolaw22_EndorseOnly: function 5 -/
mutual
def supercargolaw22_EndorseOnly.j0 : Nat → ByteArray → List (S31) → ByteArray → ByteArray → Bool → ByteArray → ByteArray → Int → Int → Option (Bool)
  | 0, _, _, _, _, _, _, _, _, _ => none
  | k + 1, x0, x1, x2, x4, x44, x217000, x217001, x217002, x217003 => if x44 = true then (some true) else ((supercargoref22_Check.f k x0 x1).bind fun bt223 => (if bt223.2.2 = 0 then (if bt223.1.toList = ([] : List UInt8) then (supercargolaw22_EndorseOnly.j1 k x0 x1 x2 x4 bt223.1 bt223.2.1 true x217000 x217001 x217002 x217003) else ((supercargoref06_Name.f k x2).bind fun t226 => (if t226 = true then (if x2.toList = bt223.1.toList then (supercargolaw22_EndorseOnly.j1 k x0 x1 x2 x4 bt223.1 bt223.2.1 true x217000 x217001 x217002 x217003) else (if bt223.2.1 > 0 then (if 0 ≤ (wrap64 (bt223.2.1 - 1)) then (if (wrap64 (bt223.2.1 - 1)) < (x1.length : Int) then (supercargolaw22_EndorseOnly.j1 k x0 x1 x2 x4 bt223.1 bt223.2.1 (((rd_T31 x1 (wrap64 (bt223.2.1 - 1))).f2) == 2) x217000 x217001 x217002 x217003) else (none)) else (none)) else (supercargolaw22_EndorseOnly.j1 k x0 x1 x2 x4 bt223.1 bt223.2.1 false x217000 x217001 x217002 x217003))) else (supercargolaw22_EndorseOnly.j1 k x0 x1 x2 x4 bt223.1 bt223.2.1 true x217000 x217001 x217002 x217003)))) else (supercargolaw22_EndorseOnly.j1 k x0 x1 x2 x4 bt223.1 bt223.2.1 true x217000 x217001 x217002 x217003)))
def supercargolaw22_EndorseOnly.j1 : Nat → ByteArray → List (S31) → ByteArray → ByteArray → ByteArray → Int → Bool → ByteArray → ByteArray → Int → Int → Option (Bool)
  | 0, _, _, _, _, _, _, _, _, _, _, _ => none
  | k + 1, x0, x1, x2, x4, x11, x12, x80, x217000, x217001, x217002, x217003 => if x80 = true then (some true) else ((some (([] : List (S31)) : List (S31))).bind fun y228 => (if y228.length + x1.length < 2932031007402 then ((some (y228 ++ x1 : List (S31))).bind fun y231 => ((some (([(⟨x11, x2, 2, 1048576⟩ : S31)] : List (S31)) : List (S31))).bind fun y234 => (if y231.length + y234.length < 2932031007402 then ((some (y231 ++ y234 : List (S31))).bind fun y237 => ((endorse_Check.f k x0 y237).bind fun bt240 => ((some (([] : List (S31)) : List (S31))).bind fun y243 => (if y243.length + y237.length < 2932031007402 then ((some (y243 ++ y237 : List (S31))).bind fun y246 => ((some (([(⟨x217000, x217001, x217002, x217003⟩ : S31)] : List (S31)) : List (S31))).bind fun y249 => (if y246.length + y249.length < 2932031007402 then ((endorse_Check.f k x0 (y246 ++ y249)).bind fun bt255 => (if bt240.1.toList = x2.toList then (if bt240.2.1 = (wrap64 (x12 + 1)) then (if bt240.2.2 = 0 then ((endorse_May.f k x0 x2 y237).bind fun t258 => (if t258 = true then (supercargolaw22_EndorseOnly.j2 k false) else ((endorse_May.f k x0 x4 y237).bind fun t259 => (if t259 = true then (supercargolaw22_EndorseOnly.j2 k false) else (if bt255.1.toList = ([] : List UInt8) then (if bt255.2.1 = (wrap64 (x12 + 1)) then (if bt255.2.2 = 9 then (supercargolaw22_EndorseOnly.j2 k true) else (supercargolaw22_EndorseOnly.j2 k (bt255.2.2 == 2))) else (supercargolaw22_EndorseOnly.j2 k false)) else (supercargolaw22_EndorseOnly.j2 k false)))))) else (supercargolaw22_EndorseOnly.j2 k false)) else (supercargolaw22_EndorseOnly.j2 k false)) else (supercargolaw22_EndorseOnly.j2 k false))) else (none)))) else (none))))) else (none)))) else (none)))
def supercargolaw22_EndorseOnly.j2 : Nat → Bool → Option (Bool)
  | 0, _ => none
  | k + 1, x10 => some x10
end
def supercargolaw22_EndorseOnly.f (k : Nat) (a0 : ByteArray) (l1 : List (S31)) (a2 : ByteArray) (a3_0 : ByteArray) (a3_1 : ByteArray) (a3_2 : Int) (a3_3 : Int) (a4 : ByteArray) : Option (Bool) := (supercargolaw22_awake.f k).bind fun t217 => (if t217 = true then ((supercargoref22_Big.f k l1 20).bind fun t218 => (if t218 = true then (supercargolaw22_EndorseOnly.j0 k a0 l1 a2 a4 true a3_0 a3_1 a3_2 a3_3) else ((supercargoref22_Big.f k (([(⟨a3_0, a3_1, a3_2, a3_3⟩ : S31)] : List (S31))) 1).bind fun t222 => (if t222 = true then (supercargolaw22_EndorseOnly.j0 k a0 l1 a2 a4 true a3_0 a3_1 a3_2 a3_3) else (if (a0.size : Int) > 100 then (supercargolaw22_EndorseOnly.j0 k a0 l1 a2 a4 true a3_0 a3_1 a3_2 a3_3) else (if (a2.size : Int) > 100 then (supercargolaw22_EndorseOnly.j0 k a0 l1 a2 a4 true a3_0 a3_1 a3_2 a3_3) else (supercargolaw22_EndorseOnly.j0 k a0 l1 a2 a4 (decide ((a4.size : Int) > 100)) a3_0 a3_1 a3_2 a3_3))))))) else (some false))
theorem supercargolaw22_EndorseOnly.mono_l : ∀ k, (∀ y0 y1 y2 y3 y4 y5 y6 y7 y8, LeO (supercargolaw22_EndorseOnly.j0 k y0 y1 y2 y3 y4 y5 y6 y7 y8) (supercargolaw22_EndorseOnly.j0 (k + 1) y0 y1 y2 y3 y4 y5 y6 y7 y8)) ∧ (∀ y0 y1 y2 y3 y4 y5 y6 y7 y8 y9 y10, LeO (supercargolaw22_EndorseOnly.j1 k y0 y1 y2 y3 y4 y5 y6 y7 y8 y9 y10) (supercargolaw22_EndorseOnly.j1 (k + 1) y0 y1 y2 y3 y4 y5 y6 y7 y8 y9 y10)) ∧ (∀ y0, LeO (supercargolaw22_EndorseOnly.j2 k y0) (supercargolaw22_EndorseOnly.j2 (k + 1) y0))
  | 0 => ⟨fun _ _ _ _ _ _ _ _ _ r h => by simp [supercargolaw22_EndorseOnly.j0] at h, fun _ _ _ _ _ _ _ _ _ _ _ r h => by simp [supercargolaw22_EndorseOnly.j1] at h, fun _ r h => by simp [supercargolaw22_EndorseOnly.j2] at h⟩
  | k + 1 => by
    obtain ⟨ih0, ih1, ih2⟩ := supercargolaw22_EndorseOnly.mono_l k
    refine ⟨?_, ?_, ?_⟩
    · intro y0 y1 y2 y3 y4 y5 y6 y7 y8
      unfold supercargolaw22_EndorseOnly.j0
      repeat' first
      | (with_reducible exact ih0 _ _ _ _ _ _ _ _ _)
      | (with_reducible exact ih1 _ _ _ _ _ _ _ _ _ _ _)
      | (with_reducible exact ih2 _)
      | (with_reducible exact endorse_Check.mono _ _ _)
      | (with_reducible exact endorse_May.mono _ _ _ _)
      | (with_reducible exact supercargolaw22_awake.mono _)
      | (with_reducible exact supercargoref06_Name.mono _ _)
      | (with_reducible exact supercargoref22_Big.mono _ _ _)
      | (with_reducible exact supercargoref22_Check.mono _ _ _)
      | (with_reducible exact LeO.refl _)
      | (with_reducible exact LeO.none _)
      | (with_reducible refine LeO.ite ?_ ?_)
      | (with_reducible refine LeO.bind ?_ (fun _ => ?_))
      | exact ih0 _ _ _ _ _ _ _ _ _
      | exact ih1 _ _ _ _ _ _ _ _ _ _ _
      | exact ih2 _
      | exact endorse_Check.mono _ _ _
      | exact endorse_May.mono _ _ _ _
      | exact supercargolaw22_awake.mono _
      | exact supercargoref06_Name.mono _ _
      | exact supercargoref22_Big.mono _ _ _
      | exact supercargoref22_Check.mono _ _ _
      | exact LeO.none _
      | refine LeO.ite ?_ ?_
      | refine LeO.bind ?_ (fun _ => ?_)
    · intro y0 y1 y2 y3 y4 y5 y6 y7 y8 y9 y10
      unfold supercargolaw22_EndorseOnly.j1
      repeat' first
      | (with_reducible exact ih0 _ _ _ _ _ _ _ _ _)
      | (with_reducible exact ih1 _ _ _ _ _ _ _ _ _ _ _)
      | (with_reducible exact ih2 _)
      | (with_reducible exact endorse_Check.mono _ _ _)
      | (with_reducible exact endorse_May.mono _ _ _ _)
      | (with_reducible exact supercargolaw22_awake.mono _)
      | (with_reducible exact supercargoref06_Name.mono _ _)
      | (with_reducible exact supercargoref22_Big.mono _ _ _)
      | (with_reducible exact supercargoref22_Check.mono _ _ _)
      | (with_reducible exact LeO.refl _)
      | (with_reducible exact LeO.none _)
      | (with_reducible refine LeO.ite ?_ ?_)
      | (with_reducible refine LeO.bind ?_ (fun _ => ?_))
      | exact ih0 _ _ _ _ _ _ _ _ _
      | exact ih1 _ _ _ _ _ _ _ _ _ _ _
      | exact ih2 _
      | exact endorse_Check.mono _ _ _
      | exact endorse_May.mono _ _ _ _
      | exact supercargolaw22_awake.mono _
      | exact supercargoref06_Name.mono _ _
      | exact supercargoref22_Big.mono _ _ _
      | exact supercargoref22_Check.mono _ _ _
      | exact LeO.none _
      | refine LeO.ite ?_ ?_
      | refine LeO.bind ?_ (fun _ => ?_)
    · intro y0
      unfold supercargolaw22_EndorseOnly.j2
      repeat' first
      | (with_reducible exact ih0 _ _ _ _ _ _ _ _ _)
      | (with_reducible exact ih1 _ _ _ _ _ _ _ _ _ _ _)
      | (with_reducible exact ih2 _)
      | (with_reducible exact endorse_Check.mono _ _ _)
      | (with_reducible exact endorse_May.mono _ _ _ _)
      | (with_reducible exact supercargolaw22_awake.mono _)
      | (with_reducible exact supercargoref06_Name.mono _ _)
      | (with_reducible exact supercargoref22_Big.mono _ _ _)
      | (with_reducible exact supercargoref22_Check.mono _ _ _)
      | (with_reducible exact LeO.refl _)
      | (with_reducible exact LeO.none _)
      | (with_reducible refine LeO.ite ?_ ?_)
      | (with_reducible refine LeO.bind ?_ (fun _ => ?_))
      | exact ih0 _ _ _ _ _ _ _ _ _
      | exact ih1 _ _ _ _ _ _ _ _ _ _ _
      | exact ih2 _
      | exact endorse_Check.mono _ _ _
      | exact endorse_May.mono _ _ _ _
      | exact supercargolaw22_awake.mono _
      | exact supercargoref06_Name.mono _ _
      | exact supercargoref22_Big.mono _ _ _
      | exact supercargoref22_Check.mono _ _ _
      | exact LeO.none _
      | refine LeO.ite ?_ ?_
      | refine LeO.bind ?_ (fun _ => ?_)
theorem supercargolaw22_EndorseOnly.mono : ∀ a0 a1 a2 a3 a4 a5 a6 a7 k, LeO (supercargolaw22_EndorseOnly.f k a0 a1 a2 a3 a4 a5 a6 a7) (supercargolaw22_EndorseOnly.f (k + 1) a0 a1 a2 a3 a4 a5 a6 a7) := by
  intro a0 a1 a2 a3 a4 a5 a6 a7 k
  obtain ⟨ih0, ih1, ih2⟩ := supercargolaw22_EndorseOnly.mono_l k
  unfold supercargolaw22_EndorseOnly.f
  repeat' first
      | (with_reducible exact ih0 _ _ _ _ _ _ _ _ _)
      | (with_reducible exact ih1 _ _ _ _ _ _ _ _ _ _ _)
      | (with_reducible exact ih2 _)
      | (with_reducible exact endorse_Check.mono _ _ _)
      | (with_reducible exact endorse_May.mono _ _ _ _)
      | (with_reducible exact supercargolaw22_awake.mono _)
      | (with_reducible exact supercargoref06_Name.mono _ _)
      | (with_reducible exact supercargoref22_Big.mono _ _ _)
      | (with_reducible exact supercargoref22_Check.mono _ _ _)
      | (with_reducible exact LeO.refl _)
      | (with_reducible exact LeO.none _)
      | (with_reducible refine LeO.ite ?_ ?_)
      | (with_reducible refine LeO.bind ?_ (fun _ => ?_))
      | exact ih0 _ _ _ _ _ _ _ _ _
      | exact ih1 _ _ _ _ _ _ _ _ _ _ _
      | exact ih2 _
      | exact endorse_Check.mono _ _ _
      | exact endorse_May.mono _ _ _ _
      | exact supercargolaw22_awake.mono _
      | exact supercargoref06_Name.mono _ _
      | exact supercargoref22_Big.mono _ _ _
      | exact supercargoref22_Check.mono _ _ _
      | exact LeO.none _
      | refine LeO.ite ?_ ?_
      | refine LeO.bind ?_ (fun _ => ?_)
def supercargolaw22_EndorseOnly.T10 : Bool × List (List Nat × List Nat) := (true, [([], []), ([], []), ([], []), ([1, 2], [1, 2]), ([], []), ([4], [4]), ([3, 5, 3], [3, 5]), ([0, 6, 6], [0, 6]), ([7], [7]), ([8], [8]), ([8], [8]), ([8], [8]), ([9, 7, 0, 1, 2, 3, 4, 5, 6, 7, 8, 9], [9]), ([10, 12, 0, 1, 2, 3, 4, 5, 6, 7, 8, 9, 10, 12], [10]), ([11, 13, 0, 1, 2, 3, 4, 5, 6, 7, 8, 9, 10, 11, 12, 13], [11])])
def supercargolaw22_EndorseOnly.B10 : List Nat := [0, 0, 0, 6, 0, 16, 62, 127, 255, 511, 511, 511, 1023, 6143, 16383]
theorem supercargolaw22_EndorseOnly.tab10 : rtab .any (opsOf Try.f5 10) = supercargolaw22_EndorseOnly.T10 := by kernel_rfl
theorem supercargolaw22_EndorseOnly.bits10 : waitsOk supercargolaw22_EndorseOnly.T10.2 supercargolaw22_EndorseOnly.B10 = true := by kernel_rfl
set_option maxHeartbeats 8000000 in
set_option maxRecDepth 100000 in
theorem supercargolaw22_EndorseOnly.calls (k : Nat) (a0 : ByteArray) (A1 : Option Addr) (c1 : Nat) (l1 : List (S31)) (a2 : ByteArray) (a3_0 : ByteArray) (a3_1 : ByteArray) (a3_2 : Int) (a3_3 : Int) (a4 : ByteArray) (r : Bool) (w : World) (hr1 : Kd.C k31 w A1 l1.length l1) (hc1 : l1.length ≤ c1) (h : supercargolaw22_EndorseOnly.f k a0 l1 a2 a3_0 a3_1 a3_2 a3_3 a4 = some r) :
    Calls Try.prog 5 #[.string a0, .slice A1 l1.length c1, .string a2, .agg #[.string a3_0, .string a3_1, .int .i64 a3_2, .int .i64 a3_3], .string a4] w fun e w' => e = .returned (.bool r) ∧ Below w.heap.size w w' := by
  have hu31 := Try.underlying31
  have HR1 := Aside0.mk hr1
  have HC1 := Aside0.mk hc1
  clear hr1 hc1
  have HB := Aside0.mk (Below.refl w.heap.size w)
  have H : ((supercargolaw22_awake.f k).bind fun t217 => (if t217 = true then ((supercargoref22_Big.f k l1 20).bind fun t218 => (if t218 = true then (supercargolaw22_EndorseOnly.j0 k a0 l1 a2 a4 true a3_0 a3_1 a3_2 a3_3) else ((supercargoref22_Big.f k (([(⟨a3_0, a3_1, a3_2, a3_3⟩ : S31)] : List (S31))) 1).bind fun t222 => (if t222 = true then (supercargolaw22_EndorseOnly.j0 k a0 l1 a2 a4 true a3_0 a3_1 a3_2 a3_3) else (if (a0.size : Int) > 100 then (supercargolaw22_EndorseOnly.j0 k a0 l1 a2 a4 true a3_0 a3_1 a3_2 a3_3) else (if (a2.size : Int) > 100 then (supercargolaw22_EndorseOnly.j0 k a0 l1 a2 a4 true a3_0 a3_1 a3_2 a3_3) else (supercargolaw22_EndorseOnly.j0 k a0 l1 a2 a4 (decide ((a4.size : Int) > 100)) a3_0 a3_1 a3_2 a3_3))))))) else (some false))) = some r := h
  clear h
  replace H := Option.bind_eq_some_iff.mp H
  obtain ⟨t217, A60, H⟩ := H
  replace H : (if t217 = true then ((supercargoref22_Big.f k l1 20).bind fun t218 => (if t218 = true then (supercargolaw22_EndorseOnly.j0 k a0 l1 a2 a4 true a3_0 a3_1 a3_2 a3_3) else ((supercargoref22_Big.f k (([(⟨a3_0, a3_1, a3_2, a3_3⟩ : S31)] : List (S31))) 1).bind fun t222 => (if t222 = true then (supercargolaw22_EndorseOnly.j0 k a0 l1 a2 a4 true a3_0 a3_1 a3_2 a3_3) else (if (a0.size : Int) > 100 then (supercargolaw22_EndorseOnly.j0 k a0 l1 a2 a4 true a3_0 a3_1 a3_2 a3_3) else (if (a2.size : Int) > 100 then (supercargolaw22_EndorseOnly.j0 k a0 l1 a2 a4 true a3_0 a3_1 a3_2 a3_3) else (supercargolaw22_EndorseOnly.j0 k a0 l1 a2 a4 (decide ((a4.size : Int) > 100)) a3_0 a3_1 a3_2 a3_3))))))) else (some false)) = some r := H
  have A6 := Aside0.mk A60
  clear A60
  by_cases c7 : t217 = true
  · subst c7
    have H1 : ((supercargoref22_Big.f k l1 20).bind fun t218 => (if t218 = true then (supercargolaw22_EndorseOnly.j0 k a0 l1 a2 a4 true a3_0 a3_1 a3_2 a3_3) else ((supercargoref22_Big.f k (([(⟨a3_0, a3_1, a3_2, a3_3⟩ : S31)] : List (S31))) 1).bind fun t222 => (if t222 = true then (supercargolaw22_EndorseOnly.j0 k a0 l1 a2 a4 true a3_0 a3_1 a3_2 a3_3) else (if (a0.size : Int) > 100 then (supercargolaw22_EndorseOnly.j0 k a0 l1 a2 a4 true a3_0 a3_1 a3_2 a3_3) else (if (a2.size : Int) > 100 then (supercargolaw22_EndorseOnly.j0 k a0 l1 a2 a4 true a3_0 a3_1 a3_2 a3_3) else (supercargolaw22_EndorseOnly.j0 k a0 l1 a2 a4 (decide ((a4.size : Int) > 100)) a3_0 a3_1 a3_2 a3_3))))))) = some r := by rw [if_pos rfl] at H; exact H
    clear H
    have H := H1
    clear H1
    have HC8 := Aside0.mk H
    clear H
    go_enter Try.func5, Try.ntmps5
    go_upto_region 3 with (first | ((with_reducible refine gate_dst (N := 8) rfl ?_); (try (refine gate_guard (by rfl) ?_; dsimp only)); refine box_event ?hg (N := 8) ?hd (cs := #[.string a3_0, .string a3_1, .int .i64 a3_2, .int .i64 a3_3]) (t := 31) ?hr ?_; (case hd => rfl); (case hg => rfl); (case hr => first | (go_simp; done) | (go_simp; rfl)); intro gb216 hg w9 hbox hb; have n0_ := Aside0.mk (below_step (by repeat (first | (with_reducible first | exact HB.out | apply below_alloc | apply pw_below_drewN | apply below_drew1) | exact HB.out)) hb); have n1_ := Aside0.mk (hbox); have n2_ := Aside0.mk ((by rw [hg]; exact (below_size (by repeat (first | (with_reducible first | exact HB.out | apply below_alloc | apply pw_below_drewN | apply below_drew1) | exact HB.out))) : w.heap.size ≤ gb216)); have n3_ := Aside0.mk ((by rw [hg]; exact (below_size (by repeat (first | (with_reducible first | exact HB.out | apply below_alloc | apply pw_below_drewN | apply below_drew1) | exact HB.out))) : w.heap.size ≤ gb216)); clear HB; have HB := n0_; have BK216 := n1_; have GW216 := n2_; have GE216 := n3_; clear n0_ n1_ n2_ n3_; clear hb hbox hg) | ((with_reducible refine gate_callee (f := 7) rfl ?_); refine goesL_ (some 21) rfl rfl Try.func7 (by kernel_rfl) rfl #[] rfl (by (try simp only [List.map_toArray, List.map_cons, List.map_nil]); first | done | rfl | (simp only [List.length_drop, List.length_take]; rfl)) ?_; (with_reducible refine (supercargolaw22_awake.calls k  true _ A6.out).mono ?_); rintro e w10 ⟨rfl, hb⟩; refine ⟨_, rfl, ?_⟩; have n0_ := Aside0.mk (blk_below (g := gb216) (o := .cells #[.string a3_0, .string a3_1, .int .i64 a3_2, .int .i64 a3_3] 31 (0, 0)) (by (with_reducible repeat (first | refine blk_drewN ?_ _ | refine blk_drew ?_ | refine blk_alloc ?_ _)); exact BK216.out) hb); have n1_ := Aside0.mk (below_step (by repeat (first | (with_reducible first | exact HB.out | apply below_alloc | apply pw_below_drewN | apply below_drew1 | refine below_set ?_ GE216.out) | exact HB.out)) hb); clear BK216; clear HB; have BK216 := n0_; have HB := n1_; clear n0_ n1_; (try clear hb); (try clear hb2); (try clear hk); (try clear hi)))
    (try simp only [Act.put, List.setIfInBounds_toArray, List.set_cons_zero, List.set_cons_succ])
    go_cut [44] (fun v44 wc => ∃ (kq : Nat) (x44_7 : Bool), v44 = .bool x44_7 ∧ Aside0 (supercargolaw22_EndorseOnly.j0 kq a0 l1 a2 a4 x44_7 a3_0 a3_1 a3_2 a3_3 = some r) ∧ Aside0 (kq ≤ k) ∧ Aside0 (wc.heap[gb216]? = some (.cells #[.string a3_0, .string a3_1, .int .i64 a3_2, .int .i64 a3_3] 31 (0, 0))) ∧ Aside0 (Below w.heap.size w wc))
    case first =>
      have H := HC8.out
      clear HC8
      replace H := Option.bind_eq_some_iff.mp H
      obtain ⟨t218, A110, H⟩ := H
      replace H : (if t218 = true then (supercargolaw22_EndorseOnly.j0 k a0 l1 a2 a4 true a3_0 a3_1 a3_2 a3_3) else ((supercargoref22_Big.f k (([(⟨a3_0, a3_1, a3_2, a3_3⟩ : S31)] : List (S31))) 1).bind fun t222 => (if t222 = true then (supercargolaw22_EndorseOnly.j0 k a0 l1 a2 a4 true a3_0 a3_1 a3_2 a3_3) else (if (a0.size : Int) > 100 then (supercargolaw22_EndorseOnly.j0 k a0 l1 a2 a4 true a3_0 a3_1 a3_2 a3_3) else (if (a2.size : Int) > 100 then (supercargolaw22_EndorseOnly.j0 k a0 l1 a2 a4 true a3_0 a3_1 a3_2 a3_3) else (supercargolaw22_EndorseOnly.j0 k a0 l1 a2 a4 (decide ((a4.size : Int) > 100)) a3_0 a3_1 a3_2 a3_3)))))) = some r := H
      have A11 := Aside0.mk A110
      clear A110
      by_cases c12 : t218 = true
      · subst c12
        have H1 : (supercargolaw22_EndorseOnly.j0 k a0 l1 a2 a4 true a3_0 a3_1 a3_2 a3_3) = some r := by rw [if_pos rfl] at H; exact H
        clear H
        have H := H1
        clear H1
        have H' := Aside0.mk H
        clear H
        go_wp2_with (first | ((with_reducible refine gate_callee (f := 8) rfl ?_); refine goesL_ (some 24) rfl rfl Try.func8 (by kernel_rfl) rfl #[.slice A1 l1.length c1, .int .i64 20] rfl (by (try simp only [List.map_toArray, List.map_cons, List.map_nil]); first | done | rfl | (simp only [List.length_drop, List.length_take]; rfl)) ?_; (with_reducible refine (supercargoref22_Big.calls k _ _ l1 20 true _ ?side1 ?side2 A11.out).mono ?_); (case side1 => repeat (first | exact (Kd.C_below HR1.out HB.out) | (with_reducible refine Kd.C_alloc ?_ _) | (with_reducible refine Kd.C_drewN ?_ _) | (with_reducible refine Kd.C_drew ?_))); (case side2 => exact HC1.out); rintro e w' ⟨rfl, ⟨nd, rfl⟩⟩; refine ⟨_, rfl, ?_⟩))
        go_meet
        case rel => exact ⟨_, (true), (by first | rfl | (simp; done) | (simp [*]; done)), H', ⟨by first | omega | exact Nat.le_refl _⟩, ⟨by (with_reducible repeat (first | refine blk_drewN ?_ _ | refine blk_drew ?_ | refine blk_alloc ?_ _)); exact BK216.out⟩, ⟨by repeat (first | (with_reducible first | exact HB.out | apply below_alloc | apply pw_below_drewN | apply below_drew1 | refine below_set ?_ GE216.out) | exact HB.out)⟩⟩
      · replace c12 := Bool.eq_false_iff.mpr c12
        subst c12
        have H1 : ((supercargoref22_Big.f k (([(⟨a3_0, a3_1, a3_2, a3_3⟩ : S31)] : List (S31))) 1).bind fun t222 => (if t222 = true then (supercargolaw22_EndorseOnly.j0 k a0 l1 a2 a4 true a3_0 a3_1 a3_2 a3_3) else (if (a0.size : Int) > 100 then (supercargolaw22_EndorseOnly.j0 k a0 l1 a2 a4 true a3_0 a3_1 a3_2 a3_3) else (if (a2.size : Int) > 100 then (supercargolaw22_EndorseOnly.j0 k a0 l1 a2 a4 true a3_0 a3_1 a3_2 a3_3) else (supercargolaw22_EndorseOnly.j0 k a0 l1 a2 a4 (decide ((a4.size : Int) > 100)) a3_0 a3_1 a3_2 a3_3))))) = some r := by rw [if_neg (show ¬ (false = true) by decide)] at H; exact H
        clear H
        have H := H1
        clear H1
        obtain ⟨y219, hy219⟩ : ∃ y_ : List (S31), y_ = (([(⟨a3_0, a3_1, a3_2, a3_3⟩ : S31)] : List (S31))) := ⟨_, rfl⟩
        replace H : ((supercargoref22_Big.f k y219 1).bind fun t222 => (if t222 = true then (supercargolaw22_EndorseOnly.j0 k a0 l1 a2 a4 true a3_0 a3_1 a3_2 a3_3) else (if (a0.size : Int) > 100 then (supercargolaw22_EndorseOnly.j0 k a0 l1 a2 a4 true a3_0 a3_1 a3_2 a3_3) else (if (a2.size : Int) > 100 then (supercargolaw22_EndorseOnly.j0 k a0 l1 a2 a4 true a3_0 a3_1 a3_2 a3_3) else (supercargolaw22_EndorseOnly.j0 k a0 l1 a2 a4 (decide ((a4.size : Int) > 100)) a3_0 a3_1 a3_2 a3_3))))) = some r := by first | (rw [hy219]; with_reducible exact H) | (have H2_ := (Option.bind_some _ _).symm.trans H; rw [hy219]; with_reducible exact H2_) | (have H2_ := (Option.bind_some _ _).symm.trans H; with_reducible exact H2_) | with_reducible exact H | (rw [hy219]; exact H) | exact H
        have Ny219 := Aside0.mk hy219
        clear hy219
        replace H := Option.bind_eq_some_iff.mp H
        obtain ⟨t222, A130, H⟩ := H
        replace H : (if t222 = true then (supercargolaw22_EndorseOnly.j0 k a0 l1 a2 a4 true a3_0 a3_1 a3_2 a3_3) else (if (a0.size : Int) > 100 then (supercargolaw22_EndorseOnly.j0 k a0 l1 a2 a4 true a3_0 a3_1 a3_2 a3_3) else (if (a2.size : Int) > 100 then (supercargolaw22_EndorseOnly.j0 k a0 l1 a2 a4 true a3_0 a3_1 a3_2 a3_3) else (supercargolaw22_EndorseOnly.j0 k a0 l1 a2 a4 (decide ((a4.size : Int) > 100)) a3_0 a3_1 a3_2 a3_3)))) = some r := H
        have A13 := Aside0.mk A130
        clear A130
        by_cases c14 : t222 = true
        · subst c14
          have H1 : (supercargolaw22_EndorseOnly.j0 k a0 l1 a2 a4 true a3_0 a3_1 a3_2 a3_3) = some r := by rw [if_pos rfl] at H; exact H
          clear H
          have H := H1
          clear H1
          have H' := Aside0.mk H
          clear H
          go_wp2_with (first | ((with_reducible refine gate_callee (f := 8) rfl ?_); refine goesL_ (some 24) rfl rfl Try.func8 (by kernel_rfl) rfl #[.slice A1 l1.length c1, .int .i64 20] rfl (by (try simp only [List.map_toArray, List.map_cons, List.map_nil]); first | done | rfl | (simp only [List.length_drop, List.length_take]; rfl)) ?_; (with_reducible refine (supercargoref22_Big.calls k _ _ l1 20 false _ ?side1 ?side2 A11.out).mono ?_); (case side1 => repeat (first | exact (Kd.C_below HR1.out HB.out) | (with_reducible refine Kd.C_alloc ?_ _) | (with_reducible refine Kd.C_drewN ?_ _) | (with_reducible refine Kd.C_drew ?_))); (case side2 => exact HC1.out); rintro e w' ⟨rfl, ⟨nd, rfl⟩⟩; refine ⟨_, rfl, ?_⟩; have hcz15_0 : w10.cell? ⟨gb216, 0, none⟩ = some (.string a3_0) := (blk_cell BK216.out 0).trans rfl; have hcz15_1 : w10.cell? ⟨gb216, 1, none⟩ = some (.string a3_1) := (blk_cell BK216.out 1).trans rfl; have hcz15_2 : w10.cell? ⟨gb216, 2, none⟩ = some (.int .i64 a3_2) := (blk_cell BK216.out 2).trans rfl; have hcz15_3 : w10.cell? ⟨gb216, 3, none⟩ = some (.int .i64 a3_3) := (blk_cell BK216.out 3).trans rfl; have hfz15_0 := blk_frozen BK216.out 0; have hfz15_1 := blk_frozen BK216.out 1; have hfz15_2 := blk_frozen BK216.out 2; have hfz15_3 := blk_frozen BK216.out 3) | ((with_reducible refine gate_dst (N := 27) rfl ?_); (try (refine gate_guard (by rfl) ?_; dsimp only)); refine Kd.R_lit k31 _ 31 ?hg (N := 27) ?hd (xs := ([(⟨a3_0, a3_1, a3_2, a3_3⟩ : S31)] : List (S31))) (inner := [.string a3_0, .string a3_1, .int .i64 a3_2, .int .i64 a3_3]) (ok := fun _ => True) (okp := fun _ => True) ?hr ?hp (fun _ hk => hk) trivial (Below.refl _ _) (Nat.le_refl _) (by simp) ?_; (case hd => rfl); (case hg => rfl); (case hr => first | (go_simp; done) | (go_simp; rfl)); (case hp => exact (Reps.c4 (show Kd.M k31 _ _ _ (⟨a3_0, a3_1, a3_2, a3_3⟩ : S31) [.string a3_0, .string a3_1, .int .i64 a3_2, .int .i64 a3_3] from (k31_mkM _ _ _ (⟨a3_0, a3_1, a3_2, a3_3⟩ : S31) )) (Reps.none _ _))); intro v220 w16 ho17 hb hg_ hnew_; clear hg_ hnew_; (first | rw [← Ny219.out] at ho17 | (simp only [Int.reduceToNat] at ho17; rw [← Ny219.out] at ho17)); have n0_ := Aside0.mk (Kd.R_lower (Kd.R_newB ho17 (g := gb216) (o := .cells #[.string a3_0, .string a3_1, .int .i64 a3_2, .int .i64 a3_3] 31 (0, 0)) (by (with_reducible repeat (first | refine blk_drewN ?_ _ | refine blk_drew ?_ | refine blk_alloc ?_ _)); exact BK216.out)) (below_size (by repeat (first | (with_reducible first | exact HB.out | apply below_alloc | apply pw_below_drewN | apply below_drew1 | refine below_set ?_ GE216.out) | exact HB.out)))); have n1_ := Aside0.mk (blk_below (g := gb216) (o := .cells #[.string a3_0, .string a3_1, .int .i64 a3_2, .int .i64 a3_3] 31 (0, 0)) (by (with_reducible repeat (first | refine blk_drewN ?_ _ | refine blk_drew ?_ | refine blk_alloc ?_ _)); exact BK216.out) hb); have n2_ := Aside0.mk (below_step (by repeat (first | (with_reducible first | exact HB.out | apply below_alloc | apply pw_below_drewN | apply below_drew1 | refine below_set ?_ GE216.out) | exact HB.out)) hb); clear BK216; clear HB; have HO221 := n0_; have BK216 := n1_; have HB := n2_; clear n0_ n1_ n2_; clear hb ho17; obtain ⟨Ao18, co18, eo18⟩ := Kd.R_slice HO221.out; subst eo18) | (go_at_call 8; (with_reducible refine (supercargoref22_Big.calls k _ _ y219 1 true _ ?side1 ?side2 A13.out).mono ?_); (case side1 => repeat (first | exact (Kd.R_reads' HO221.out).2.2 | (with_reducible refine Kd.C_alloc ?_ _) | (with_reducible refine Kd.C_drewN ?_ _) | (with_reducible refine Kd.C_drew ?_))); (case side2 => exact (Kd.R_reads' HO221.out).2.1); rintro e w' ⟨rfl, ⟨nd, rfl⟩⟩))
          go_meet
          case rel => exact ⟨_, (true), (by first | rfl | (simp; done) | (simp [*]; done)), H', ⟨by first | omega | exact Nat.le_refl _⟩, ⟨by (with_reducible repeat (first | refine blk_drewN ?_ _ | refine blk_drew ?_ | refine blk_alloc ?_ _)); exact BK216.out⟩, ⟨by repeat (first | (with_reducible first | exact HB.out | apply below_alloc | apply pw_below_drewN | apply below_drew1 | refine below_set ?_ GE216.out) | exact HB.out)⟩⟩
        · replace c14 := Bool.eq_false_iff.mpr c14
          subst c14
          have H1 : (if (a0.size : Int) > 100 then (supercargolaw22_EndorseOnly.j0 k a0 l1 a2 a4 true a3_0 a3_1 a3_2 a3_3) else (if (a2.size : Int) > 100 then (supercargolaw22_EndorseOnly.j0 k a0 l1 a2 a4 true a3_0 a3_1 a3_2 a3_3) else (supercargolaw22_EndorseOnly.j0 k a0 l1 a2 a4 (decide ((a4.size : Int) > 100)) a3_0 a3_1 a3_2 a3_3))) = some r := by rw [if_neg (show ¬ (false = true) by decide)] at H; exact H
          clear H
          have H := H1
          clear H1
          by_cases c19 : (a0.size : Int) > 100
          · rw [if_pos c19] at H
            have c19b0 : decide (100 < (a0.size : Int)) = true := decide_eq_true c19
            have c19b1 : decide (100 < a0.size) = true := decide_eq_true (by omega)
            clear c19
            (first | rw [c19b0] | (simp only [i64_w, i32_w]; rw [c19b0]) | skip)
            have H' := Aside0.mk H
            clear H
            go_wp2_with (first | ((with_reducible refine gate_callee (f := 8) rfl ?_); refine goesL_ (some 24) rfl rfl Try.func8 (by kernel_rfl) rfl #[.slice A1 l1.length c1, .int .i64 20] rfl (by (try simp only [List.map_toArray, List.map_cons, List.map_nil]); first | done | rfl | (simp only [List.length_drop, List.length_take]; rfl)) ?_; (with_reducible refine (supercargoref22_Big.calls k _ _ l1 20 false _ ?side1 ?side2 A11.out).mono ?_); (case side1 => repeat (first | exact (Kd.C_below HR1.out HB.out) | (with_reducible refine Kd.C_alloc ?_ _) | (with_reducible refine Kd.C_drewN ?_ _) | (with_reducible refine Kd.C_drew ?_))); (case side2 => exact HC1.out); rintro e w' ⟨rfl, ⟨nd, rfl⟩⟩; refine ⟨_, rfl, ?_⟩; have hcz20_0 : w10.cell? ⟨gb216, 0, none⟩ = some (.string a3_0) := (blk_cell BK216.out 0).trans rfl; have hcz20_1 : w10.cell? ⟨gb216, 1, none⟩ = some (.string a3_1) := (blk_cell BK216.out 1).trans rfl; have hcz20_2 : w10.cell? ⟨gb216, 2, none⟩ = some (.int .i64 a3_2) := (blk_cell BK216.out 2).trans rfl; have hcz20_3 : w10.cell? ⟨gb216, 3, none⟩ = some (.int .i64 a3_3) := (blk_cell BK216.out 3).trans rfl; have hfz20_0 := blk_frozen BK216.out 0; have hfz20_1 := blk_frozen BK216.out 1; have hfz20_2 := blk_frozen BK216.out 2; have hfz20_3 := blk_frozen BK216.out 3) | ((with_reducible refine gate_dst (N := 27) rfl ?_); (try (refine gate_guard (by rfl) ?_; dsimp only)); refine Kd.R_lit k31 _ 31 ?hg (N := 27) ?hd (xs := ([(⟨a3_0, a3_1, a3_2, a3_3⟩ : S31)] : List (S31))) (inner := [.string a3_0, .string a3_1, .int .i64 a3_2, .int .i64 a3_3]) (ok := fun _ => True) (okp := fun _ => True) ?hr ?hp (fun _ hk => hk) trivial (Below.refl _ _) (Nat.le_refl _) (by simp) ?_; (case hd => rfl); (case hg => rfl); (case hr => first | (go_simp; done) | (go_simp; rfl)); (case hp => exact (Reps.c4 (show Kd.M k31 _ _ _ (⟨a3_0, a3_1, a3_2, a3_3⟩ : S31) [.string a3_0, .string a3_1, .int .i64 a3_2, .int .i64 a3_3] from (k31_mkM _ _ _ (⟨a3_0, a3_1, a3_2, a3_3⟩ : S31) )) (Reps.none _ _))); intro v220 w21 ho22 hb hg_ hnew_; clear hg_ hnew_; (first | rw [← Ny219.out] at ho22 | (simp only [Int.reduceToNat] at ho22; rw [← Ny219.out] at ho22)); have n0_ := Aside0.mk (Kd.R_lower (Kd.R_newB ho22 (g := gb216) (o := .cells #[.string a3_0, .string a3_1, .int .i64 a3_2, .int .i64 a3_3] 31 (0, 0)) (by (with_reducible repeat (first | refine blk_drewN ?_ _ | refine blk_drew ?_ | refine blk_alloc ?_ _)); exact BK216.out)) (below_size (by repeat (first | (with_reducible first | exact HB.out | apply below_alloc | apply pw_below_drewN | apply below_drew1 | refine below_set ?_ GE216.out) | exact HB.out)))); have n1_ := Aside0.mk (blk_below (g := gb216) (o := .cells #[.string a3_0, .string a3_1, .int .i64 a3_2, .int .i64 a3_3] 31 (0, 0)) (by (with_reducible repeat (first | refine blk_drewN ?_ _ | refine blk_drew ?_ | refine blk_alloc ?_ _)); exact BK216.out) hb); have n2_ := Aside0.mk (below_step (by repeat (first | (with_reducible first | exact HB.out | apply below_alloc | apply pw_below_drewN | apply below_drew1 | refine below_set ?_ GE216.out) | exact HB.out)) hb); clear BK216; clear HB; have HO221 := n0_; have BK216 := n1_; have HB := n2_; clear n0_ n1_ n2_; clear hb ho22; obtain ⟨Ao23, co23, eo23⟩ := Kd.R_slice HO221.out; subst eo23) | (go_at_call 8; (with_reducible refine (supercargoref22_Big.calls k _ _ y219 1 false _ ?side1 ?side2 A13.out).mono ?_); (case side1 => repeat (first | exact (Kd.R_reads' HO221.out).2.2 | (with_reducible refine Kd.C_alloc ?_ _) | (with_reducible refine Kd.C_drewN ?_ _) | (with_reducible refine Kd.C_drew ?_))); (case side2 => exact (Kd.R_reads' HO221.out).2.1); rintro e w' ⟨rfl, ⟨nd, rfl⟩⟩))
            go_meet
            case rel => exact ⟨_, (true), (by first | rfl | (simp; done) | (simp [*]; done)), H', ⟨by first | omega | exact Nat.le_refl _⟩, ⟨by (with_reducible repeat (first | refine blk_drewN ?_ _ | refine blk_drew ?_ | refine blk_alloc ?_ _)); exact BK216.out⟩, ⟨by repeat (first | (with_reducible first | exact HB.out | apply below_alloc | apply pw_below_drewN | apply below_drew1 | refine below_set ?_ GE216.out) | exact HB.out)⟩⟩
          · rw [if_neg c19] at H
            have c19b0 : decide (100 < (a0.size : Int)) = false := decide_eq_false c19
            have c19b1 : decide (100 < a0.size) = false := decide_eq_false (by omega)
            clear c19
            (first | rw [c19b0] | (simp only [i64_w, i32_w]; rw [c19b0]) | skip)
            by_cases c24 : (a2.size : Int) > 100
            · rw [if_pos c24] at H
              have c24b0 : decide (100 < (a2.size : Int)) = true := decide_eq_true c24
              have c24b1 : decide (100 < a2.size) = true := decide_eq_true (by omega)
              clear c24
              have H' := Aside0.mk H
              clear H
              go_wp2_with (first | ((with_reducible refine gate_callee (f := 8) rfl ?_); refine goesL_ (some 24) rfl rfl Try.func8 (by kernel_rfl) rfl #[.slice A1 l1.length c1, .int .i64 20] rfl (by (try simp only [List.map_toArray, List.map_cons, List.map_nil]); first | done | rfl | (simp only [List.length_drop, List.length_take]; rfl)) ?_; (with_reducible refine (supercargoref22_Big.calls k _ _ l1 20 false _ ?side1 ?side2 A11.out).mono ?_); (case side1 => repeat (first | exact (Kd.C_below HR1.out HB.out) | (with_reducible refine Kd.C_alloc ?_ _) | (with_reducible refine Kd.C_drewN ?_ _) | (with_reducible refine Kd.C_drew ?_))); (case side2 => exact HC1.out); rintro e w' ⟨rfl, ⟨nd, rfl⟩⟩; refine ⟨_, rfl, ?_⟩; have hcz25_0 : w10.cell? ⟨gb216, 0, none⟩ = some (.string a3_0) := (blk_cell BK216.out 0).trans rfl; have hcz25_1 : w10.cell? ⟨gb216, 1, none⟩ = some (.string a3_1) := (blk_cell BK216.out 1).trans rfl; have hcz25_2 : w10.cell? ⟨gb216, 2, none⟩ = some (.int .i64 a3_2) := (blk_cell BK216.out 2).trans rfl; have hcz25_3 : w10.cell? ⟨gb216, 3, none⟩ = some (.int .i64 a3_3) := (blk_cell BK216.out 3).trans rfl; have hfz25_0 := blk_frozen BK216.out 0; have hfz25_1 := blk_frozen BK216.out 1; have hfz25_2 := blk_frozen BK216.out 2; have hfz25_3 := blk_frozen BK216.out 3) | ((with_reducible refine gate_dst (N := 27) rfl ?_); (try (refine gate_guard (by rfl) ?_; dsimp only)); refine Kd.R_lit k31 _ 31 ?hg (N := 27) ?hd (xs := ([(⟨a3_0, a3_1, a3_2, a3_3⟩ : S31)] : List (S31))) (inner := [.string a3_0, .string a3_1, .int .i64 a3_2, .int .i64 a3_3]) (ok := fun _ => True) (okp := fun _ => True) ?hr ?hp (fun _ hk => hk) trivial (Below.refl _ _) (Nat.le_refl _) (by simp) ?_; (case hd => rfl); (case hg => rfl); (case hr => first | (go_simp; done) | (go_simp; rfl)); (case hp => exact (Reps.c4 (show Kd.M k31 _ _ _ (⟨a3_0, a3_1, a3_2, a3_3⟩ : S31) [.string a3_0, .string a3_1, .int .i64 a3_2, .int .i64 a3_3] from (k31_mkM _ _ _ (⟨a3_0, a3_1, a3_2, a3_3⟩ : S31) )) (Reps.none _ _))); intro v220 w26 ho27 hb hg_ hnew_; clear hg_ hnew_; (first | rw [← Ny219.out] at ho27 | (simp only [Int.reduceToNat] at ho27; rw [← Ny219.out] at ho27)); have n0_ := Aside0.mk (Kd.R_lower (Kd.R_newB ho27 (g := gb216) (o := .cells #[.string a3_0, .string a3_1, .int .i64 a3_2, .int .i64 a3_3] 31 (0, 0)) (by (with_reducible repeat (first | refine blk_drewN ?_ _ | refine blk_drew ?_ | refine blk_alloc ?_ _)); exact BK216.out)) (below_size (by repeat (first | (with_reducible first | exact HB.out | apply below_alloc | apply pw_below_drewN | apply below_drew1 | refine below_set ?_ GE216.out) | exact HB.out)))); have n1_ := Aside0.mk (blk_below (g := gb216) (o := .cells #[.string a3_0, .string a3_1, .int .i64 a3_2, .int .i64 a3_3] 31 (0, 0)) (by (with_reducible repeat (first | refine blk_drewN ?_ _ | refine blk_drew ?_ | refine blk_alloc ?_ _)); exact BK216.out) hb); have n2_ := Aside0.mk (below_step (by repeat (first | (with_reducible first | exact HB.out | apply below_alloc | apply pw_below_drewN | apply below_drew1 | refine below_set ?_ GE216.out) | exact HB.out)) hb); clear BK216; clear HB; have HO221 := n0_; have BK216 := n1_; have HB := n2_; clear n0_ n1_ n2_; clear hb ho27; obtain ⟨Ao28, co28, eo28⟩ := Kd.R_slice HO221.out; subst eo28) | (go_at_call 8; (with_reducible refine (supercargoref22_Big.calls k _ _ y219 1 false _ ?side1 ?side2 A13.out).mono ?_); (case side1 => repeat (first | exact (Kd.R_reads' HO221.out).2.2 | (with_reducible refine Kd.C_alloc ?_ _) | (with_reducible refine Kd.C_drewN ?_ _) | (with_reducible refine Kd.C_drew ?_))); (case side2 => exact (Kd.R_reads' HO221.out).2.1); rintro e w' ⟨rfl, ⟨nd, rfl⟩⟩))
              go_meet
              case rel => exact ⟨_, (true), (by first | rfl | (simp; done) | (simp [*]; done)), H', ⟨by first | omega | exact Nat.le_refl _⟩, ⟨by (with_reducible repeat (first | refine blk_drewN ?_ _ | refine blk_drew ?_ | refine blk_alloc ?_ _)); exact BK216.out⟩, ⟨by repeat (first | (with_reducible first | exact HB.out | apply below_alloc | apply pw_below_drewN | apply below_drew1 | refine below_set ?_ GE216.out) | exact HB.out)⟩⟩
            · rw [if_neg c24] at H
              have c24b0 : decide (100 < (a2.size : Int)) = false := decide_eq_false c24
              have c24b1 : decide (100 < a2.size) = false := decide_eq_false (by omega)
              clear c24
              have H' := Aside0.mk H
              clear H
              go_wp2_with (first | ((with_reducible refine gate_callee (f := 8) rfl ?_); refine goesL_ (some 24) rfl rfl Try.func8 (by kernel_rfl) rfl #[.slice A1 l1.length c1, .int .i64 20] rfl (by (try simp only [List.map_toArray, List.map_cons, List.map_nil]); first | done | rfl | (simp only [List.length_drop, List.length_take]; rfl)) ?_; (with_reducible refine (supercargoref22_Big.calls k _ _ l1 20 false _ ?side1 ?side2 A11.out).mono ?_); (case side1 => repeat (first | exact (Kd.C_below HR1.out HB.out) | (with_reducible refine Kd.C_alloc ?_ _) | (with_reducible refine Kd.C_drewN ?_ _) | (with_reducible refine Kd.C_drew ?_))); (case side2 => exact HC1.out); rintro e w' ⟨rfl, ⟨nd, rfl⟩⟩; refine ⟨_, rfl, ?_⟩; have hcz29_0 : w10.cell? ⟨gb216, 0, none⟩ = some (.string a3_0) := (blk_cell BK216.out 0).trans rfl; have hcz29_1 : w10.cell? ⟨gb216, 1, none⟩ = some (.string a3_1) := (blk_cell BK216.out 1).trans rfl; have hcz29_2 : w10.cell? ⟨gb216, 2, none⟩ = some (.int .i64 a3_2) := (blk_cell BK216.out 2).trans rfl; have hcz29_3 : w10.cell? ⟨gb216, 3, none⟩ = some (.int .i64 a3_3) := (blk_cell BK216.out 3).trans rfl; have hfz29_0 := blk_frozen BK216.out 0; have hfz29_1 := blk_frozen BK216.out 1; have hfz29_2 := blk_frozen BK216.out 2; have hfz29_3 := blk_frozen BK216.out 3) | ((with_reducible refine gate_dst (N := 27) rfl ?_); (try (refine gate_guard (by rfl) ?_; dsimp only)); refine Kd.R_lit k31 _ 31 ?hg (N := 27) ?hd (xs := ([(⟨a3_0, a3_1, a3_2, a3_3⟩ : S31)] : List (S31))) (inner := [.string a3_0, .string a3_1, .int .i64 a3_2, .int .i64 a3_3]) (ok := fun _ => True) (okp := fun _ => True) ?hr ?hp (fun _ hk => hk) trivial (Below.refl _ _) (Nat.le_refl _) (by simp) ?_; (case hd => rfl); (case hg => rfl); (case hr => first | (go_simp; done) | (go_simp; rfl)); (case hp => exact (Reps.c4 (show Kd.M k31 _ _ _ (⟨a3_0, a3_1, a3_2, a3_3⟩ : S31) [.string a3_0, .string a3_1, .int .i64 a3_2, .int .i64 a3_3] from (k31_mkM _ _ _ (⟨a3_0, a3_1, a3_2, a3_3⟩ : S31) )) (Reps.none _ _))); intro v220 w30 ho31 hb hg_ hnew_; clear hg_ hnew_; (first | rw [← Ny219.out] at ho31 | (simp only [Int.reduceToNat] at ho31; rw [← Ny219.out] at ho31)); have n0_ := Aside0.mk (Kd.R_lower (Kd.R_newB ho31 (g := gb216) (o := .cells #[.string a3_0, .string a3_1, .int .i64 a3_2, .int .i64 a3_3] 31 (0, 0)) (by (with_reducible repeat (first | refine blk_drewN ?_ _ | refine blk_drew ?_ | refine blk_alloc ?_ _)); exact BK216.out)) (below_size (by repeat (first | (with_reducible first | exact HB.out | apply below_alloc | apply pw_below_drewN | apply below_drew1 | refine below_set ?_ GE216.out) | exact HB.out)))); have n1_ := Aside0.mk (blk_below (g := gb216) (o := .cells #[.string a3_0, .string a3_1, .int .i64 a3_2, .int .i64 a3_3] 31 (0, 0)) (by (with_reducible repeat (first | refine blk_drewN ?_ _ | refine blk_drew ?_ | refine blk_alloc ?_ _)); exact BK216.out) hb); have n2_ := Aside0.mk (below_step (by repeat (first | (with_reducible first | exact HB.out | apply below_alloc | apply pw_below_drewN | apply below_drew1 | refine below_set ?_ GE216.out) | exact HB.out)) hb); clear BK216; clear HB; have HO221 := n0_; have BK216 := n1_; have HB := n2_; clear n0_ n1_ n2_; clear hb ho31; obtain ⟨Ao32, co32, eo32⟩ := Kd.R_slice HO221.out; subst eo32) | (go_at_call 8; (with_reducible refine (supercargoref22_Big.calls k _ _ y219 1 false _ ?side1 ?side2 A13.out).mono ?_); (case side1 => repeat (first | exact (Kd.R_reads' HO221.out).2.2 | (with_reducible refine Kd.C_alloc ?_ _) | (with_reducible refine Kd.C_drewN ?_ _) | (with_reducible refine Kd.C_drew ?_))); (case side2 => exact (Kd.R_reads' HO221.out).2.1); rintro e w' ⟨rfl, ⟨nd, rfl⟩⟩))
              go_meet
              case rel => exact ⟨_, (decide ((a4.size : Int) > 100)), (by first | rfl | (simp; done) | (simp [*]; done)), H', ⟨by first | omega | exact Nat.le_refl _⟩, ⟨by (with_reducible repeat (first | refine blk_drewN ?_ _ | refine blk_drew ?_ | refine blk_alloc ?_ _)); exact BK216.out⟩, ⟨by repeat (first | (with_reducible first | exact HB.out | apply below_alloc | apply pw_below_drewN | apply below_drew1 | refine below_set ?_ GE216.out) | exact HB.out)⟩⟩
    case rest =>
      clear HC8
      try clear c1
      try clear c2
      try clear p2
      try clear c4
      try clear c5
      try clear c7
      try clear c8
      try clear c12
      try clear c14
      try clear c19
      try clear c19b0
      try clear c19b1
      try clear c24
      try clear c24b0
      try clear c24b1
      try clear hcz15_0
      try clear hcz15_1
      try clear hcz15_2
      try clear hcz15_3
      try clear hcz20_0
      try clear hcz20_1
      try clear hcz20_2
      try clear hcz20_3
      try clear hcz25_0
      try clear hcz25_1
      try clear hcz25_2
      try clear hcz25_3
      try clear hcz29_0
      try clear hcz29_1
      try clear hcz29_2
      try clear hcz29_3
      try clear hfz15_0
      try clear hfz15_1
      try clear hfz15_2
      try clear hfz15_3
      try clear hfz20_0
      try clear hfz20_1
      try clear hfz20_2
      try clear hfz20_3
      try clear hfz25_0
      try clear hfz25_1
      try clear hfz25_2
      try clear hfz25_3
      try clear hfz29_0
      try clear hfz29_1
      try clear hfz29_2
      try clear hfz29_3
      obtain ⟨kq, x44_7, rfl, HA, HJ7, BK216, HB⟩ := hcut
      cases kq with
      | zero => exact absurd HA.out (by simp [supercargolaw22_EndorseOnly.j0])
      | succ kj7 =>
        have H := HA.out
        clear HA
        simp only [supercargolaw22_EndorseOnly.j0] at H
        by_cases c33 : x44_7 = true
        · subst c33
          have H1 : (some true) = some r := by rw [if_pos rfl] at H; exact H
          clear H
          have H := H1
          clear H1
          obtain rfl := Option.some.inj H
          go_wp2
          go_ret
          exact ⟨by first | rfl | (simp [errW_none, errW_some] <;> rfl) | (simp [*, errW_none, errW_some] <;> rfl), by repeat (first | (with_reducible first | exact HB.out | apply below_alloc | apply pw_below_drewN | apply below_drew1 | refine below_set ?_ GE216.out) | exact HB.out)⟩
        · replace c33 := Bool.eq_false_iff.mpr c33
          subst c33
          have H1 : ((supercargoref22_Check.f kj7 a0 l1).bind fun bt223 => (if bt223.2.2 = 0 then (if bt223.1.toList = ([] : List UInt8) then (supercargolaw22_EndorseOnly.j1 kj7 a0 l1 a2 a4 bt223.1 bt223.2.1 true a3_0 a3_1 a3_2 a3_3) else ((supercargoref06_Name.f kj7 a2).bind fun t226 => (if t226 = true then (if a2.toList = bt223.1.toList then (supercargolaw22_EndorseOnly.j1 kj7 a0 l1 a2 a4 bt223.1 bt223.2.1 true a3_0 a3_1 a3_2 a3_3) else (if bt223.2.1 > 0 then (if 0 ≤ (wrap64 (bt223.2.1 - 1)) then (if (wrap64 (bt223.2.1 - 1)) < (l1.length : Int) then (supercargolaw22_EndorseOnly.j1 kj7 a0 l1 a2 a4 bt223.1 bt223.2.1 (((rd_T31 l1 (wrap64 (bt223.2.1 - 1))).f2) == 2) a3_0 a3_1 a3_2 a3_3) else (none)) else (none)) else (supercargolaw22_EndorseOnly.j1 kj7 a0 l1 a2 a4 bt223.1 bt223.2.1 false a3_0 a3_1 a3_2 a3_3))) else (supercargolaw22_EndorseOnly.j1 kj7 a0 l1 a2 a4 bt223.1 bt223.2.1 true a3_0 a3_1 a3_2 a3_3)))) else (supercargolaw22_EndorseOnly.j1 kj7 a0 l1 a2 a4 bt223.1 bt223.2.1 true a3_0 a3_1 a3_2 a3_3))) = some r := by rw [if_neg (show ¬ (false = true) by decide)] at H; exact H
          clear H
          have H := H1
          clear H1
          replace H := Option.bind_eq_some_iff.mp H
          obtain ⟨⟨t223, t224, t225⟩, A340, H⟩ := H
          replace H : (if t225 = 0 then (if t223.toList = ([] : List UInt8) then (supercargolaw22_EndorseOnly.j1 kj7 a0 l1 a2 a4 t223 t224 true a3_0 a3_1 a3_2 a3_3) else ((supercargoref06_Name.f kj7 a2).bind fun t226 => (if t226 = true then (if a2.toList = t223.toList then (supercargolaw22_EndorseOnly.j1 kj7 a0 l1 a2 a4 t223 t224 true a3_0 a3_1 a3_2 a3_3) else (if t224 > 0 then (if 0 ≤ (wrap64 (t224 - 1)) then (if (wrap64 (t224 - 1)) < (l1.length : Int) then (supercargolaw22_EndorseOnly.j1 kj7 a0 l1 a2 a4 t223 t224 (((rd_T31 l1 (wrap64 (t224 - 1))).f2) == 2) a3_0 a3_1 a3_2 a3_3) else (none)) else (none)) else (supercargolaw22_EndorseOnly.j1 kj7 a0 l1 a2 a4 t223 t224 false a3_0 a3_1 a3_2 a3_3))) else (supercargolaw22_EndorseOnly.j1 kj7 a0 l1 a2 a4 t223 t224 true a3_0 a3_1 a3_2 a3_3)))) else (supercargolaw22_EndorseOnly.j1 kj7 a0 l1 a2 a4 t223 t224 true a3_0 a3_1 a3_2 a3_3)) = some r := H
          have A34 := Aside0.mk A340
          clear A340
          have HC35 := Aside0.mk H
          clear H
          go_upto_region 6 with (first | ((with_reducible refine gate_callee (f := 15) rfl ?_); refine goesL_ (some 48) rfl rfl Try.func15 (by kernel_rfl) rfl #[.string a0, .slice A1 l1.length c1] rfl (by (try simp only [List.map_toArray, List.map_cons, List.map_nil]); first | done | rfl | (simp only [List.length_drop, List.length_take]; rfl)) ?_; (with_reducible refine (supercargoref22_Check.calls kj7 a0 _ _ l1 t223 t224 t225 _ ?side1 ?side2 A34.out).mono ?_); (case side1 => repeat (first | exact (Kd.C_below HR1.out HB.out) | (with_reducible refine Kd.C_alloc ?_ _) | (with_reducible refine Kd.C_drewN ?_ _) | (with_reducible refine Kd.C_drew ?_))); (case side2 => exact HC1.out); rintro e w36 ⟨rfl, hb⟩; refine ⟨_, rfl, ?_⟩; have n0_ := Aside0.mk (blk_below (g := gb216) (o := .cells #[.string a3_0, .string a3_1, .int .i64 a3_2, .int .i64 a3_3] 31 (0, 0)) (by (with_reducible repeat (first | refine blk_drewN ?_ _ | refine blk_drew ?_ | refine blk_alloc ?_ _)); exact BK216.out) hb); have n1_ := Aside0.mk (below_step (by repeat (first | (with_reducible first | exact HB.out | apply below_alloc | apply pw_below_drewN | apply below_drew1 | refine below_set ?_ GE216.out) | exact HB.out)) hb); clear BK216; clear HB; have BK216 := n0_; have HB := n1_; clear n0_ n1_; (try clear hb); (try clear hb2); (try clear hk); (try clear hi)))
          (try simp only [Act.put, List.setIfInBounds_toArray, List.set_cons_zero, List.set_cons_succ])
          go_cut [80] (fun v80 wc => ∃ (kq : Nat) (x80_34 : Bool), v80 = .bool x80_34 ∧ Aside0 (supercargolaw22_EndorseOnly.j1 kq a0 l1 a2 a4 t223 t224 x80_34 a3_0 a3_1 a3_2 a3_3 = some r) ∧ Aside0 (kq ≤ kj7) ∧ Aside0 (wc.heap[gb216]? = some (.cells #[.string a3_0, .string a3_1, .int .i64 a3_2, .int .i64 a3_3] 31 (0, 0))) ∧ Aside0 (Below w.heap.size w wc))
          case first =>
            have H := HC35.out
            clear HC35
            by_cases c37 : t225 = 0
            · rw [if_pos c37] at H
              have c37b0 : (t225 == 0) = true := beq_iff_eq.mpr c37
              have c37b1 : (t225 != 0) = false := bne_eq_false_iff_eq.mpr c37
              clear c37
              (first | rw [c37b0] | (simp only [i64_w, i32_w]; rw [c37b0]) | skip)
              by_cases c38 : t223.toList = ([] : List UInt8)
              · rw [if_pos c38] at H
                have c38b0 : (t223.toList == ([] : List UInt8)) = true := beq_iff_eq.mpr c38
                have c38b1 : (t223.toList != ([] : List UInt8)) = false := bne_eq_false_iff_eq.mpr c38
                clear c38
                have H' := Aside0.mk H
                clear H
                go_wp2
                go_meet
                case rel => exact ⟨_, (true), (by first | rfl | (simp; done) | (simp [*]; done)), H', ⟨by have := HJ7.out; first | omega | exact Nat.le_refl _⟩, ⟨by (with_reducible repeat (first | refine blk_drewN ?_ _ | refine blk_drew ?_ | refine blk_alloc ?_ _)); exact BK216.out⟩, ⟨by repeat (first | (with_reducible first | exact HB.out | apply below_alloc | apply pw_below_drewN | apply below_drew1 | refine below_set ?_ GE216.out) | exact HB.out)⟩⟩
              · rw [if_neg c38] at H
                have c38b0 : (t223.toList == ([] : List UInt8)) = false := beq_eq_false_iff_ne.mpr c38
                have c38b1 : (t223.toList != ([] : List UInt8)) = true := bne_iff_ne.mpr c38
                replace H := Option.bind_eq_some_iff.mp H
                obtain ⟨t226, A390, H⟩ := H
                replace H : (if t226 = true then (if a2.toList = t223.toList then (supercargolaw22_EndorseOnly.j1 kj7 a0 l1 a2 a4 t223 t224 true a3_0 a3_1 a3_2 a3_3) else (if t224 > 0 then (if 0 ≤ (wrap64 (t224 - 1)) then (if (wrap64 (t224 - 1)) < (l1.length : Int) then (supercargolaw22_EndorseOnly.j1 kj7 a0 l1 a2 a4 t223 t224 (((rd_T31 l1 (wrap64 (t224 - 1))).f2) == 2) a3_0 a3_1 a3_2 a3_3) else (none)) else (none)) else (supercargolaw22_EndorseOnly.j1 kj7 a0 l1 a2 a4 t223 t224 false a3_0 a3_1 a3_2 a3_3))) else (supercargolaw22_EndorseOnly.j1 kj7 a0 l1 a2 a4 t223 t224 true a3_0 a3_1 a3_2 a3_3)) = some r := H
                have A39 := Aside0.mk A390
                clear A390
                by_cases c40 : t226 = true
                · subst c40
                  have H1 : (if a2.toList = t223.toList then (supercargolaw22_EndorseOnly.j1 kj7 a0 l1 a2 a4 t223 t224 true a3_0 a3_1 a3_2 a3_3) else (if t224 > 0 then (if 0 ≤ (wrap64 (t224 - 1)) then (if (wrap64 (t224 - 1)) < (l1.length : Int) then (supercargolaw22_EndorseOnly.j1 kj7 a0 l1 a2 a4 t223 t224 (((rd_T31 l1 (wrap64 (t224 - 1))).f2) == 2) a3_0 a3_1 a3_2 a3_3) else (none)) else (none)) else (supercargolaw22_EndorseOnly.j1 kj7 a0 l1 a2 a4 t223 t224 false a3_0 a3_1 a3_2 a3_3))) = some r := by rw [if_pos rfl] at H; exact H
                  clear H
                  have H := H1
                  clear H1
                  by_cases c41 : a2.toList = t223.toList
                  · rw [if_pos c41] at H
                    have c41b0 : (a2.toList == t223.toList) = true := beq_iff_eq.mpr c41
                    have c41b1 : (a2.toList != t223.toList) = false := bne_eq_false_iff_eq.mpr c41
                    clear c41
                    have H' := Aside0.mk H
                    clear H
                    go_wp2_with (first | (go_at_call 14; (with_reducible refine (supercargoref06_Name.calls kj7 a2 true _ A39.out).mono ?_); rintro e w' ⟨rfl, ⟨nd, rfl⟩⟩))
                    go_meet
                    case rel => exact ⟨_, (true), (by first | rfl | (simp; done) | (simp [*]; done)), H', ⟨by have := HJ7.out; first | omega | exact Nat.le_refl _⟩, ⟨by (with_reducible repeat (first | refine blk_drewN ?_ _ | refine blk_drew ?_ | refine blk_alloc ?_ _)); exact BK216.out⟩, ⟨by repeat (first | (with_reducible first | exact HB.out | apply below_alloc | apply pw_below_drewN | apply below_drew1 | refine below_set ?_ GE216.out) | exact HB.out)⟩⟩
                  · rw [if_neg c41] at H
                    have c41b0 : (a2.toList == t223.toList) = false := beq_eq_false_iff_ne.mpr c41
                    have c41b1 : (a2.toList != t223.toList) = true := bne_iff_ne.mpr c41
                    by_cases c42 : t224 > 0
                    · rw [if_pos c42] at H
                      have c42b0 : decide (0 < t224) = true := decide_eq_true c42
                      clear c42
                      obtain ⟨ji43, hji43⟩ : ∃ j_ : Int, (wrap64 (t224 - 1)) = j_ := ⟨_, rfl⟩
                      replace H : (if 0 ≤ (ji43) then (if (ji43) < (l1.length : Int) then (supercargolaw22_EndorseOnly.j1 kj7 a0 l1 a2 a4 t223 t224 (((rd_T31 l1 (ji43)).f2) == 2) a3_0 a3_1 a3_2 a3_3) else (none)) else (none)) = some r := by first | (rw [hji43] at H; exact H) | (simp only [hji43] at H ⊢; exact H)
                      (try rw [hji43] at A39)
                      have hji43w : (IntKind.i64.wrap (t224 - 1)) = ji43 := (i64_w _).trans hji43
                      by_cases c44 : 0 ≤ (ji43)
                      · rw [if_pos c44] at H
                        have c44b0 : decide (0 ≤ (ji43)) = true := decide_eq_true c44
                        clear c44
                        by_cases c45 : (ji43) < (l1.length : Int)
                        · rw [if_pos c45] at H
                          have c45b0 : decide ((ji43) < (l1.length : Int)) = true := decide_eq_true c45
                          clear c45
                          have H' := Aside0.mk H
                          clear H
                          go_wp2_with (first | (go_at_call 14; (with_reducible refine (supercargoref06_Name.calls kj7 a2 true _ A39.out).mono ?_); rintro e w' ⟨rfl, ⟨nd, rfl⟩⟩; have p227 : 0 ≤ ((ji43) : Int) := of_decide_eq_true (by first | (with_reducible assumption) | assumption); have q227 : (ji43) < (l1.length : Int) := of_decide_eq_true (by first | (with_reducible assumption) | assumption); obtain ⟨ad227, e227, hx227_0, hx227_1, hx227_2, hx227_3⟩ := at_T31 HR1.out (ji43) p227 q227; cases e227; replace hx227_0 := (HB.out.cell (World.block_lt_of_cell? w _ hx227_0)).trans hx227_0; replace hx227_1 := (HB.out.cell (World.block_lt_of_cell? w _ hx227_1)).trans hx227_1; replace hx227_2 := (HB.out.cell (World.block_lt_of_cell? w _ hx227_2)).trans hx227_2; replace hx227_3 := (HB.out.cell (World.block_lt_of_cell? w _ hx227_3)).trans hx227_3; replace p227 := eq_true p227; replace q227 := eq_true q227))
                          go_meet
                          case rel => exact ⟨_, ((((rd_T31 l1 (ji43)).f2) == 2)), (by first | rfl | (simp; done) | (simp only [← hji43] <;> (first | rfl | simp)) | (simp [*]; done)), H', ⟨by have := HJ7.out; first | omega | exact Nat.le_refl _⟩, ⟨by (with_reducible repeat (first | refine blk_drewN ?_ _ | refine blk_drew ?_ | refine blk_alloc ?_ _)); exact BK216.out⟩, ⟨by repeat (first | (with_reducible first | exact HB.out | apply below_alloc | apply pw_below_drewN | apply below_drew1 | refine below_set ?_ GE216.out) | exact HB.out)⟩⟩
                        · rw [if_neg c45] at H
                          exact absurd H (by simp)
                      · rw [if_neg c44] at H
                        exact absurd H (by simp)
                    · rw [if_neg c42] at H
                      have c42b0 : decide (0 < t224) = false := decide_eq_false c42
                      clear c42
                      have H' := Aside0.mk H
                      clear H
                      go_wp2_with (first | (go_at_call 14; (with_reducible refine (supercargoref06_Name.calls kj7 a2 true _ A39.out).mono ?_); rintro e w' ⟨rfl, ⟨nd, rfl⟩⟩))
                      go_meet
                      case rel => exact ⟨_, (false), (by first | rfl | (simp; done) | (simp [*]; done)), H', ⟨by have := HJ7.out; first | omega | exact Nat.le_refl _⟩, ⟨by (with_reducible repeat (first | refine blk_drewN ?_ _ | refine blk_drew ?_ | refine blk_alloc ?_ _)); exact BK216.out⟩, ⟨by repeat (first | (with_reducible first | exact HB.out | apply below_alloc | apply pw_below_drewN | apply below_drew1 | refine below_set ?_ GE216.out) | exact HB.out)⟩⟩
                · replace c40 := Bool.eq_false_iff.mpr c40
                  subst c40
                  have H1 : (supercargolaw22_EndorseOnly.j1 kj7 a0 l1 a2 a4 t223 t224 true a3_0 a3_1 a3_2 a3_3) = some r := by rw [if_neg (show ¬ (false = true) by decide)] at H; exact H
                  clear H
                  have H := H1
                  clear H1
                  have H' := Aside0.mk H
                  clear H
                  go_wp2_with (first | (go_at_call 14; (with_reducible refine (supercargoref06_Name.calls kj7 a2 false _ A39.out).mono ?_); rintro e w' ⟨rfl, ⟨nd, rfl⟩⟩))
                  go_meet
                  case rel => exact ⟨_, (true), (by first | rfl | (simp; done) | (simp [*]; done)), H', ⟨by have := HJ7.out; first | omega | exact Nat.le_refl _⟩, ⟨by (with_reducible repeat (first | refine blk_drewN ?_ _ | refine blk_drew ?_ | refine blk_alloc ?_ _)); exact BK216.out⟩, ⟨by repeat (first | (with_reducible first | exact HB.out | apply below_alloc | apply pw_below_drewN | apply below_drew1 | refine below_set ?_ GE216.out) | exact HB.out)⟩⟩
            · rw [if_neg c37] at H
              have c37b0 : (t225 == 0) = false := beq_eq_false_iff_ne.mpr c37
              have c37b1 : (t225 != 0) = true := bne_iff_ne.mpr c37
              (first | rw [c37b0] | (simp only [i64_w, i32_w]; rw [c37b0]) | skip)
              have H' := Aside0.mk H
              clear H
              go_wp2
              go_meet
              case rel => exact ⟨_, (true), (by first | rfl | (simp; done) | (simp [*]; done)), H', ⟨by have := HJ7.out; first | omega | exact Nat.le_refl _⟩, ⟨by (with_reducible repeat (first | refine blk_drewN ?_ _ | refine blk_drew ?_ | refine blk_alloc ?_ _)); exact BK216.out⟩, ⟨by repeat (first | (with_reducible first | exact HB.out | apply below_alloc | apply pw_below_drewN | apply below_drew1 | refine below_set ?_ GE216.out) | exact HB.out)⟩⟩
          case rest =>
            clear HC35
            try clear c1
            try clear c2
            try clear p2
            try clear q2
            try clear hx2
            try clear c3
            try clear c4
            try clear c5
            try clear p6
            try clear c7
            try clear c8
            try clear c12
            try clear c14
            try clear c15
            try clear c19
            try clear c19b0
            try clear c19b1
            try clear p22
            try clear q22
            try clear hx22
            try clear c24
            try clear c24b0
            try clear c24b1
            try clear c33
            try clear c37
            try clear c37b0
            try clear c37b1
            try clear c38
            try clear c38b0
            try clear c38b1
            try clear c40
            try clear c41
            try clear c41b0
            try clear c41b1
            try clear c42
            try clear c42b0
            try clear c44
            try clear c44b0
            try clear c45
            try clear c45b0
            try clear hcz15_0
            try clear hcz15_1
            try clear hcz15_2
            try clear hcz15_3
            try clear hcz20_0
            try clear hcz20_1
            try clear hcz20_2
            try clear hcz20_3
            try clear hcz25_0
            try clear hcz25_1
            try clear hcz25_2
            try clear hcz25_3
            try clear hcz29_0
            try clear hcz29_1
            try clear hcz29_2
            try clear hcz29_3
            try clear hfz15_0
            try clear hfz15_1
            try clear hfz15_2
            try clear hfz15_3
            try clear hfz20_0
            try clear hfz20_1
            try clear hfz20_2
            try clear hfz20_3
            try clear hfz25_0
            try clear hfz25_1
            try clear hfz25_2
            try clear hfz25_3
            try clear hfz29_0
            try clear hfz29_1
            try clear hfz29_2
            try clear hfz29_3
            try clear hx227_0
            try clear hx227_1
            try clear hx227_2
            try clear hx227_3
            try clear p2
            try clear p227
            try clear q227
            obtain ⟨kq, x80_34, rfl, HA, HJ34, BK216, HB⟩ := hcut
            cases kq with
            | zero => exact absurd HA.out (by simp [supercargolaw22_EndorseOnly.j1])
            | succ kj34 =>
              have H := HA.out
              clear HA
              simp only [supercargolaw22_EndorseOnly.j1] at H
              by_cases c46 : x80_34 = true
              · subst c46
                have H1 : (some true) = some r := by rw [if_pos rfl] at H; exact H
                clear H
                have H := H1
                clear H1
                obtain rfl := Option.some.inj H
                go_wp2
                go_ret
                exact ⟨by first | rfl | (simp [errW_none, errW_some] <;> rfl) | (simp [*, errW_none, errW_some] <;> rfl), by repeat (first | (with_reducible first | exact HB.out | apply below_alloc | apply pw_below_drewN | apply below_drew1 | refine below_set ?_ GE216.out) | exact HB.out)⟩
              · replace c46 := Bool.eq_false_iff.mpr c46
                subst c46
                have H1 : ((some (([] : List (S31)) : List (S31))).bind fun y228 => (if y228.length + l1.length < 2932031007402 then ((some (y228 ++ l1 : List (S31))).bind fun y231 => ((some (([(⟨t223, a2, 2, 1048576⟩ : S31)] : List (S31)) : List (S31))).bind fun y234 => (if y231.length + y234.length < 2932031007402 then ((some (y231 ++ y234 : List (S31))).bind fun y237 => ((endorse_Check.f kj34 a0 y237).bind fun bt240 => ((some (([] : List (S31)) : List (S31))).bind fun y243 => (if y243.length + y237.length < 2932031007402 then ((some (y243 ++ y237 : List (S31))).bind fun y246 => ((some (([(⟨a3_0, a3_1, a3_2, a3_3⟩ : S31)] : List (S31)) : List (S31))).bind fun y249 => (if y246.length + y249.length < 2932031007402 then ((endorse_Check.f kj34 a0 (y246 ++ y249)).bind fun bt255 => (if bt240.1.toList = a2.toList then (if bt240.2.1 = (wrap64 (t224 + 1)) then (if bt240.2.2 = 0 then ((endorse_May.f kj34 a0 a2 y237).bind fun t258 => (if t258 = true then (supercargolaw22_EndorseOnly.j2 kj34 false) else ((endorse_May.f kj34 a0 a4 y237).bind fun t259 => (if t259 = true then (supercargolaw22_EndorseOnly.j2 kj34 false) else (if bt255.1.toList = ([] : List UInt8) then (if bt255.2.1 = (wrap64 (t224 + 1)) then (if bt255.2.2 = 9 then (supercargolaw22_EndorseOnly.j2 kj34 true) else (supercargolaw22_EndorseOnly.j2 kj34 (bt255.2.2 == 2))) else (supercargolaw22_EndorseOnly.j2 kj34 false)) else (supercargolaw22_EndorseOnly.j2 kj34 false)))))) else (supercargolaw22_EndorseOnly.j2 kj34 false)) else (supercargolaw22_EndorseOnly.j2 kj34 false)) else (supercargolaw22_EndorseOnly.j2 kj34 false))) else (none)))) else (none))))) else (none)))) else (none))) = some r := by rw [if_neg (show ¬ (false = true) by decide)] at H; exact H
                clear H
                have H := H1
                clear H1
                obtain ⟨y228, hy228⟩ : ∃ y_ : List (S31), y_ = (([] : List (S31))) := ⟨_, rfl⟩
                replace H : (if y228.length + l1.length < 2932031007402 then ((some (y228 ++ l1 : List (S31))).bind fun y231 => ((some (([(⟨t223, a2, 2, 1048576⟩ : S31)] : List (S31)) : List (S31))).bind fun y234 => (if y231.length + y234.length < 2932031007402 then ((some (y231 ++ y234 : List (S31))).bind fun y237 => ((endorse_Check.f kj34 a0 y237).bind fun bt240 => ((some (([] : List (S31)) : List (S31))).bind fun y243 => (if y243.length + y237.length < 2932031007402 then ((some (y243 ++ y237 : List (S31))).bind fun y246 => ((some (([(⟨a3_0, a3_1, a3_2, a3_3⟩ : S31)] : List (S31)) : List (S31))).bind fun y249 => (if y246.length + y249.length < 2932031007402 then ((endorse_Check.f kj34 a0 (y246 ++ y249)).bind fun bt255 => (if bt240.1.toList = a2.toList then (if bt240.2.1 = (wrap64 (t224 + 1)) then (if bt240.2.2 = 0 then ((endorse_May.f kj34 a0 a2 y237).bind fun t258 => (if t258 = true then (supercargolaw22_EndorseOnly.j2 kj34 false) else ((endorse_May.f kj34 a0 a4 y237).bind fun t259 => (if t259 = true then (supercargolaw22_EndorseOnly.j2 kj34 false) else (if bt255.1.toList = ([] : List UInt8) then (if bt255.2.1 = (wrap64 (t224 + 1)) then (if bt255.2.2 = 9 then (supercargolaw22_EndorseOnly.j2 kj34 true) else (supercargolaw22_EndorseOnly.j2 kj34 (bt255.2.2 == 2))) else (supercargolaw22_EndorseOnly.j2 kj34 false)) else (supercargolaw22_EndorseOnly.j2 kj34 false)))))) else (supercargolaw22_EndorseOnly.j2 kj34 false)) else (supercargolaw22_EndorseOnly.j2 kj34 false)) else (supercargolaw22_EndorseOnly.j2 kj34 false))) else (none)))) else (none))))) else (none)))) else (none)) = some r := by first | (rw [hy228]; with_reducible exact H) | (have H2_ := (Option.bind_some _ _).symm.trans H; rw [hy228]; with_reducible exact H2_) | (have H2_ := (Option.bind_some _ _).symm.trans H; with_reducible exact H2_) | with_reducible exact H | (rw [hy228]; exact H) | exact H
                have Ny228 := Aside0.mk hy228
                clear hy228
                by_cases c47 : y228.length + l1.length < 2932031007402
                · rw [if_pos c47] at H
                  have LMc47 := Aside0.mk c47
                  clear c47
                  obtain ⟨y231, hy231⟩ : ∃ y_ : List (S31), y_ = (y228 ++ l1) := ⟨_, rfl⟩
                  replace H : ((some (([(⟨t223, a2, 2, 1048576⟩ : S31)] : List (S31)) : List (S31))).bind fun y234 => (if y231.length + y234.length < 2932031007402 then ((some (y231 ++ y234 : List (S31))).bind fun y237 => ((endorse_Check.f kj34 a0 y237).bind fun bt240 => ((some (([] : List (S31)) : List (S31))).bind fun y243 => (if y243.length + y237.length < 2932031007402 then ((some (y243 ++ y237 : List (S31))).bind fun y246 => ((some (([(⟨a3_0, a3_1, a3_2, a3_3⟩ : S31)] : List (S31)) : List (S31))).bind fun y249 => (if y246.length + y249.length < 2932031007402 then ((endorse_Check.f kj34 a0 (y246 ++ y249)).bind fun bt255 => (if bt240.1.toList = a2.toList then (if bt240.2.1 = (wrap64 (t224 + 1)) then (if bt240.2.2 = 0 then ((endorse_May.f kj34 a0 a2 y237).bind fun t258 => (if t258 = true then (supercargolaw22_EndorseOnly.j2 kj34 false) else ((endorse_May.f kj34 a0 a4 y237).bind fun t259 => (if t259 = true then (supercargolaw22_EndorseOnly.j2 kj34 false) else (if bt255.1.toList = ([] : List UInt8) then (if bt255.2.1 = (wrap64 (t224 + 1)) then (if bt255.2.2 = 9 then (supercargolaw22_EndorseOnly.j2 kj34 true) else (supercargolaw22_EndorseOnly.j2 kj34 (bt255.2.2 == 2))) else (supercargolaw22_EndorseOnly.j2 kj34 false)) else (supercargolaw22_EndorseOnly.j2 kj34 false)))))) else (supercargolaw22_EndorseOnly.j2 kj34 false)) else (supercargolaw22_EndorseOnly.j2 kj34 false)) else (supercargolaw22_EndorseOnly.j2 kj34 false))) else (none)))) else (none))))) else (none))) = some r := by first | (rw [hy231]; with_reducible exact H) | (have H2_ := (Option.bind_some _ _).symm.trans H; rw [hy231]; with_reducible exact H2_) | (have H2_ := (Option.bind_some _ _).symm.trans H; with_reducible exact H2_) | with_reducible exact H | (rw [hy231]; exact H) | exact H
                  have Ny231 := Aside0.mk hy231
                  clear hy231
                  obtain ⟨y234, hy234⟩ : ∃ y_ : List (S31), y_ = (([(⟨t223, a2, 2, 1048576⟩ : S31)] : List (S31))) := ⟨_, rfl⟩
                  replace H : (if y231.length + y234.length < 2932031007402 then ((some (y231 ++ y234 : List (S31))).bind fun y237 => ((endorse_Check.f kj34 a0 y237).bind fun bt240 => ((some (([] : List (S31)) : List (S31))).bind fun y243 => (if y243.length + y237.length < 2932031007402 then ((some (y243 ++ y237 : List (S31))).bind fun y246 => ((some (([(⟨a3_0, a3_1, a3_2, a3_3⟩ : S31)] : List (S31)) : List (S31))).bind fun y249 => (if y246.length + y249.length < 2932031007402 then ((endorse_Check.f kj34 a0 (y246 ++ y249)).bind fun bt255 => (if bt240.1.toList = a2.toList then (if bt240.2.1 = (wrap64 (t224 + 1)) then (if bt240.2.2 = 0 then ((endorse_May.f kj34 a0 a2 y237).bind fun t258 => (if t258 = true then (supercargolaw22_EndorseOnly.j2 kj34 false) else ((endorse_May.f kj34 a0 a4 y237).bind fun t259 => (if t259 = true then (supercargolaw22_EndorseOnly.j2 kj34 false) else (if bt255.1.toList = ([] : List UInt8) then (if bt255.2.1 = (wrap64 (t224 + 1)) then (if bt255.2.2 = 9 then (supercargolaw22_EndorseOnly.j2 kj34 true) else (supercargolaw22_EndorseOnly.j2 kj34 (bt255.2.2 == 2))) else (supercargolaw22_EndorseOnly.j2 kj34 false)) else (supercargolaw22_EndorseOnly.j2 kj34 false)))))) else (supercargolaw22_EndorseOnly.j2 kj34 false)) else (supercargolaw22_EndorseOnly.j2 kj34 false)) else (supercargolaw22_EndorseOnly.j2 kj34 false))) else (none)))) else (none))))) else (none)) = some r := by first | (rw [hy234]; with_reducible exact H) | (have H2_ := (Option.bind_some _ _).symm.trans H; rw [hy234]; with_reducible exact H2_) | (have H2_ := (Option.bind_some _ _).symm.trans H; with_reducible exact H2_) | with_reducible exact H | (rw [hy234]; exact H) | exact H
                  have Ny234 := Aside0.mk hy234
                  clear hy234
                  by_cases c48 : y231.length + y234.length < 2932031007402
                  · rw [if_pos c48] at H
                    have LMc48 := Aside0.mk c48
                    clear c48
                    obtain ⟨y237, hy237⟩ : ∃ y_ : List (S31), y_ = (y231 ++ y234) := ⟨_, rfl⟩
                    replace H : ((endorse_Check.f kj34 a0 y237).bind fun bt240 => ((some (([] : List (S31)) : List (S31))).bind fun y243 => (if y243.length + y237.length < 2932031007402 then ((some (y243 ++ y237 : List (S31))).bind fun y246 => ((some (([(⟨a3_0, a3_1, a3_2, a3_3⟩ : S31)] : List (S31)) : List (S31))).bind fun y249 => (if y246.length + y249.length < 2932031007402 then ((endorse_Check.f kj34 a0 (y246 ++ y249)).bind fun bt255 => (if bt240.1.toList = a2.toList then (if bt240.2.1 = (wrap64 (t224 + 1)) then (if bt240.2.2 = 0 then ((endorse_May.f kj34 a0 a2 y237).bind fun t258 => (if t258 = true then (supercargolaw22_EndorseOnly.j2 kj34 false) else ((endorse_May.f kj34 a0 a4 y237).bind fun t259 => (if t259 = true then (supercargolaw22_EndorseOnly.j2 kj34 false) else (if bt255.1.toList = ([] : List UInt8) then (if bt255.2.1 = (wrap64 (t224 + 1)) then (if bt255.2.2 = 9 then (supercargolaw22_EndorseOnly.j2 kj34 true) else (supercargolaw22_EndorseOnly.j2 kj34 (bt255.2.2 == 2))) else (supercargolaw22_EndorseOnly.j2 kj34 false)) else (supercargolaw22_EndorseOnly.j2 kj34 false)))))) else (supercargolaw22_EndorseOnly.j2 kj34 false)) else (supercargolaw22_EndorseOnly.j2 kj34 false)) else (supercargolaw22_EndorseOnly.j2 kj34 false))) else (none)))) else (none)))) = some r := by first | (rw [hy237]; with_reducible exact H) | (have H2_ := (Option.bind_some _ _).symm.trans H; rw [hy237]; with_reducible exact H2_) | (have H2_ := (Option.bind_some _ _).symm.trans H; with_reducible exact H2_) | with_reducible exact H | (rw [hy237]; exact H) | exact H
                    have Ny237 := Aside0.mk hy237
                    clear hy237
                    replace H := Option.bind_eq_some_iff.mp H
                    obtain ⟨⟨t240, t241, t242⟩, A490, H⟩ := H
                    replace H : ((some (([] : List (S31)) : List (S31))).bind fun y243 => (if y243.length + y237.length < 2932031007402 then ((some (y243 ++ y237 : List (S31))).bind fun y246 => ((some (([(⟨a3_0, a3_1, a3_2, a3_3⟩ : S31)] : List (S31)) : List (S31))).bind fun y249 => (if y246.length + y249.length < 2932031007402 then ((endorse_Check.f kj34 a0 (y246 ++ y249)).bind fun bt255 => (if t240.toList = a2.toList then (if t241 = (wrap64 (t224 + 1)) then (if t242 = 0 then ((endorse_May.f kj34 a0 a2 y237).bind fun t258 => (if t258 = true then (supercargolaw22_EndorseOnly.j2 kj34 false) else ((endorse_May.f kj34 a0 a4 y237).bind fun t259 => (if t259 = true then (supercargolaw22_EndorseOnly.j2 kj34 false) else (if bt255.1.toList = ([] : List UInt8) then (if bt255.2.1 = (wrap64 (t224 + 1)) then (if bt255.2.2 = 9 then (supercargolaw22_EndorseOnly.j2 kj34 true) else (supercargolaw22_EndorseOnly.j2 kj34 (bt255.2.2 == 2))) else (supercargolaw22_EndorseOnly.j2 kj34 false)) else (supercargolaw22_EndorseOnly.j2 kj34 false)))))) else (supercargolaw22_EndorseOnly.j2 kj34 false)) else (supercargolaw22_EndorseOnly.j2 kj34 false)) else (supercargolaw22_EndorseOnly.j2 kj34 false))) else (none)))) else (none))) = some r := H
                    have A49 := Aside0.mk A490
                    clear A490
                    obtain ⟨y243, hy243⟩ : ∃ y_ : List (S31), y_ = (([] : List (S31))) := ⟨_, rfl⟩
                    replace H : (if y243.length + y237.length < 2932031007402 then ((some (y243 ++ y237 : List (S31))).bind fun y246 => ((some (([(⟨a3_0, a3_1, a3_2, a3_3⟩ : S31)] : List (S31)) : List (S31))).bind fun y249 => (if y246.length + y249.length < 2932031007402 then ((endorse_Check.f kj34 a0 (y246 ++ y249)).bind fun bt255 => (if t240.toList = a2.toList then (if t241 = (wrap64 (t224 + 1)) then (if t242 = 0 then ((endorse_May.f kj34 a0 a2 y237).bind fun t258 => (if t258 = true then (supercargolaw22_EndorseOnly.j2 kj34 false) else ((endorse_May.f kj34 a0 a4 y237).bind fun t259 => (if t259 = true then (supercargolaw22_EndorseOnly.j2 kj34 false) else (if bt255.1.toList = ([] : List UInt8) then (if bt255.2.1 = (wrap64 (t224 + 1)) then (if bt255.2.2 = 9 then (supercargolaw22_EndorseOnly.j2 kj34 true) else (supercargolaw22_EndorseOnly.j2 kj34 (bt255.2.2 == 2))) else (supercargolaw22_EndorseOnly.j2 kj34 false)) else (supercargolaw22_EndorseOnly.j2 kj34 false)))))) else (supercargolaw22_EndorseOnly.j2 kj34 false)) else (supercargolaw22_EndorseOnly.j2 kj34 false)) else (supercargolaw22_EndorseOnly.j2 kj34 false))) else (none)))) else (none)) = some r := by first | (rw [hy243]; with_reducible exact H) | (have H2_ := (Option.bind_some _ _).symm.trans H; rw [hy243]; with_reducible exact H2_) | (have H2_ := (Option.bind_some _ _).symm.trans H; with_reducible exact H2_) | with_reducible exact H | (rw [hy243]; exact H) | exact H
                    have Ny243 := Aside0.mk hy243
                    clear hy243
                    by_cases c50 : y243.length + y237.length < 2932031007402
                    · rw [if_pos c50] at H
                      have LMc50 := Aside0.mk c50
                      clear c50
                      obtain ⟨y246, hy246⟩ : ∃ y_ : List (S31), y_ = (y243 ++ y237) := ⟨_, rfl⟩
                      replace H : ((some (([(⟨a3_0, a3_1, a3_2, a3_3⟩ : S31)] : List (S31)) : List (S31))).bind fun y249 => (if y246.length + y249.length < 2932031007402 then ((endorse_Check.f kj34 a0 (y246 ++ y249)).bind fun bt255 => (if t240.toList = a2.toList then (if t241 = (wrap64 (t224 + 1)) then (if t242 = 0 then ((endorse_May.f kj34 a0 a2 y237).bind fun t258 => (if t258 = true then (supercargolaw22_EndorseOnly.j2 kj34 false) else ((endorse_May.f kj34 a0 a4 y237).bind fun t259 => (if t259 = true then (supercargolaw22_EndorseOnly.j2 kj34 false) else (if bt255.1.toList = ([] : List UInt8) then (if bt255.2.1 = (wrap64 (t224 + 1)) then (if bt255.2.2 = 9 then (supercargolaw22_EndorseOnly.j2 kj34 true) else (supercargolaw22_EndorseOnly.j2 kj34 (bt255.2.2 == 2))) else (supercargolaw22_EndorseOnly.j2 kj34 false)) else (supercargolaw22_EndorseOnly.j2 kj34 false)))))) else (supercargolaw22_EndorseOnly.j2 kj34 false)) else (supercargolaw22_EndorseOnly.j2 kj34 false)) else (supercargolaw22_EndorseOnly.j2 kj34 false))) else (none))) = some r := by first | (rw [hy246]; with_reducible exact H) | (have H2_ := (Option.bind_some _ _).symm.trans H; rw [hy246]; with_reducible exact H2_) | (have H2_ := (Option.bind_some _ _).symm.trans H; with_reducible exact H2_) | with_reducible exact H | (rw [hy246]; exact H) | exact H
                      have Ny246 := Aside0.mk hy246
                      clear hy246
                      obtain ⟨y249, hy249⟩ : ∃ y_ : List (S31), y_ = (([(⟨a3_0, a3_1, a3_2, a3_3⟩ : S31)] : List (S31))) := ⟨_, rfl⟩
                      replace H : (if y246.length + y249.length < 2932031007402 then ((endorse_Check.f kj34 a0 (y246 ++ y249)).bind fun bt255 => (if t240.toList = a2.toList then (if t241 = (wrap64 (t224 + 1)) then (if t242 = 0 then ((endorse_May.f kj34 a0 a2 y237).bind fun t258 => (if t258 = true then (supercargolaw22_EndorseOnly.j2 kj34 false) else ((endorse_May.f kj34 a0 a4 y237).bind fun t259 => (if t259 = true then (supercargolaw22_EndorseOnly.j2 kj34 false) else (if bt255.1.toList = ([] : List UInt8) then (if bt255.2.1 = (wrap64 (t224 + 1)) then (if bt255.2.2 = 9 then (supercargolaw22_EndorseOnly.j2 kj34 true) else (supercargolaw22_EndorseOnly.j2 kj34 (bt255.2.2 == 2))) else (supercargolaw22_EndorseOnly.j2 kj34 false)) else (supercargolaw22_EndorseOnly.j2 kj34 false)))))) else (supercargolaw22_EndorseOnly.j2 kj34 false)) else (supercargolaw22_EndorseOnly.j2 kj34 false)) else (supercargolaw22_EndorseOnly.j2 kj34 false))) else (none)) = some r := by first | (rw [hy249]; with_reducible exact H) | (have H2_ := (Option.bind_some _ _).symm.trans H; rw [hy249]; with_reducible exact H2_) | (have H2_ := (Option.bind_some _ _).symm.trans H; with_reducible exact H2_) | with_reducible exact H | (rw [hy249]; exact H) | exact H
                      have Ny249 := Aside0.mk hy249
                      clear hy249
                      by_cases c51 : y246.length + y249.length < 2932031007402
                      · rw [if_pos c51] at H
                        have LMc51 := Aside0.mk c51
                        clear c51
                        obtain ⟨y252, hy252⟩ : ∃ y_ : List (S31), y_ = (y246 ++ y249) := ⟨_, rfl⟩
                        replace H : ((endorse_Check.f kj34 a0 y252).bind fun bt255 => (if t240.toList = a2.toList then (if t241 = (wrap64 (t224 + 1)) then (if t242 = 0 then ((endorse_May.f kj34 a0 a2 y237).bind fun t258 => (if t258 = true then (supercargolaw22_EndorseOnly.j2 kj34 false) else ((endorse_May.f kj34 a0 a4 y237).bind fun t259 => (if t259 = true then (supercargolaw22_EndorseOnly.j2 kj34 false) else (if bt255.1.toList = ([] : List UInt8) then (if bt255.2.1 = (wrap64 (t224 + 1)) then (if bt255.2.2 = 9 then (supercargolaw22_EndorseOnly.j2 kj34 true) else (supercargolaw22_EndorseOnly.j2 kj34 (bt255.2.2 == 2))) else (supercargolaw22_EndorseOnly.j2 kj34 false)) else (supercargolaw22_EndorseOnly.j2 kj34 false)))))) else (supercargolaw22_EndorseOnly.j2 kj34 false)) else (supercargolaw22_EndorseOnly.j2 kj34 false)) else (supercargolaw22_EndorseOnly.j2 kj34 false))) = some r := by first | (rw [hy252]; with_reducible exact H) | (have H2_ := (Option.bind_some _ _).symm.trans H; rw [hy252]; with_reducible exact H2_) | (have H2_ := (Option.bind_some _ _).symm.trans H; with_reducible exact H2_) | with_reducible exact H | (rw [hy252]; exact H) | exact H
                        have Ny252 := Aside0.mk hy252
                        clear hy252
                        replace H := Option.bind_eq_some_iff.mp H
                        obtain ⟨⟨t255, t256, t257⟩, A520, H⟩ := H
                        replace H : (if t240.toList = a2.toList then (if t241 = (wrap64 (t224 + 1)) then (if t242 = 0 then ((endorse_May.f kj34 a0 a2 y237).bind fun t258 => (if t258 = true then (supercargolaw22_EndorseOnly.j2 kj34 false) else ((endorse_May.f kj34 a0 a4 y237).bind fun t259 => (if t259 = true then (supercargolaw22_EndorseOnly.j2 kj34 false) else (if t255.toList = ([] : List UInt8) then (if t256 = (wrap64 (t224 + 1)) then (if t257 = 9 then (supercargolaw22_EndorseOnly.j2 kj34 true) else (supercargolaw22_EndorseOnly.j2 kj34 (t257 == 2))) else (supercargolaw22_EndorseOnly.j2 kj34 false)) else (supercargolaw22_EndorseOnly.j2 kj34 false)))))) else (supercargolaw22_EndorseOnly.j2 kj34 false)) else (supercargolaw22_EndorseOnly.j2 kj34 false)) else (supercargolaw22_EndorseOnly.j2 kj34 false)) = some r := H
                        have A52 := Aside0.mk A520
                        clear A520
                        have HC53 := Aside0.mk H
                        clear H
                        try go_wp2_with (first | ((with_reducible refine gate_dst (N := 81) rfl ?_); (try (refine gate_guard (by rfl) ?_; dsimp only)); refine Kd.R_lit k31 _ 31 ?hg (N := 81) ?hd (xs := ([] : List (S31))) (inner := []) (ok := fun _ => True) (okp := fun _ => True) ?hr ?hp (fun _ hk => hk) trivial (Below.refl _ _) (Nat.le_refl _) (by simp) ?_; (case hd => rfl); (case hg => rfl); (case hr => first | (go_simp; done) | (go_simp; rfl)); (case hp => exact (Reps.none _ _)); intro v229 w54 ho55 hb hg_ hnew_; clear hg_ hnew_; (first | rw [← Ny228.out] at ho55 | (simp only [Int.reduceToNat] at ho55; rw [← Ny228.out] at ho55)); have n0_ := Aside0.mk (Kd.R_lower (Kd.R_newB ho55 (g := gb216) (o := .cells #[.string a3_0, .string a3_1, .int .i64 a3_2, .int .i64 a3_3] 31 (0, 0)) (by (with_reducible repeat (first | refine blk_drewN ?_ _ | refine blk_drew ?_ | refine blk_alloc ?_ _)); exact BK216.out)) (below_size (by repeat (first | (with_reducible first | exact HB.out | apply below_alloc | apply pw_below_drewN | apply below_drew1 | refine below_set ?_ GE216.out) | exact HB.out)))); have n1_ := Aside0.mk (blk_below (g := gb216) (o := .cells #[.string a3_0, .string a3_1, .int .i64 a3_2, .int .i64 a3_3] 31 (0, 0)) (by (with_reducible repeat (first | refine blk_drewN ?_ _ | refine blk_drew ?_ | refine blk_alloc ?_ _)); exact BK216.out) hb); have n2_ := Aside0.mk (below_step (by repeat (first | (with_reducible first | exact HB.out | apply below_alloc | apply pw_below_drewN | apply below_drew1 | refine below_set ?_ GE216.out) | exact HB.out)) hb); clear BK216; clear HB; have HO230 := n0_; have BK216 := n1_; have HB := n2_; clear n0_ n1_ n2_; clear hb ho55) | ((with_reducible refine gate_builtin (b := .append) (xs := #[.tmp 81, .tmp 82]) rfl ?_); (try (refine gate_guard (by rfl) ?_; dsimp only)); at_builtin; refine Kd.R_append_rows k31 (w0 := w) w.heap.size rfl (.tmp 81) (.tmp 82) 22 31 (.agg #[(.string ⟨#[]⟩), (.string ⟨#[]⟩), (.int .i64 0), (.int .i64 0)]) 48 rfl Try.underlying22 info31 rfl (by decide) (by omega) v229 y228 l1 _ _ _ (fun k_ => k_ ≠ gb216) (fun _ => False) rfl rfl ?aO ?aR (fun _ _ h => h) (fun _ h => h.elim) ?aF ?aB ?aS ?aL ?_; (case aR => repeat (first | exact (Kd.C_below HR1.out HB.out) | (with_reducible refine Kd.C_alloc ?_ _) | (with_reducible refine Kd.C_drewN ?_ _) | (with_reducible refine Kd.C_drew ?_))); (case aB => exact (by repeat (first | (with_reducible first | exact HB.out | apply below_alloc | apply pw_below_drewN | apply below_drew1 | refine below_set ?_ GE216.out) | exact HB.out))); (case aF => exact (fun k_ hk => Kd.freshB (g := gb216) (o := .cells #[.string a3_0, .string a3_1, .int .i64 a3_2, .int .i64 a3_3] 31 (0, 0)) (by (with_reducible repeat (first | refine blk_drewN ?_ _ | refine blk_drew ?_ | refine blk_alloc ?_ _)); exact BK216.out) k_ hk)); (case aO => exact (by (with_reducible repeat (first | apply Kd.R_alloc | apply Kd.R_drewN | apply Kd.R_drew)); exact Kd.R_mono HO230.out (fun _ hk => hk.2))); (case aS => exact (below_size (by repeat (first | (with_reducible first | exact HB.out | apply below_alloc | apply pw_below_drewN | apply below_drew1 | refine below_set ?_ GE216.out) | exact HB.out)))); (case aL => have := LMc47.out; omega); intro v232 w56 ho hb hg hat; rw [← Ny231.out] at ho; have n0_ := Aside0.mk (blk_grown (g := gb216) (o := .cells #[.string a3_0, .string a3_1, .int .i64 a3_2, .int .i64 a3_3] 31 (0, 0)) (by (with_reducible repeat (first | refine blk_drewN ?_ _ | refine blk_drew ?_ | refine blk_alloc ?_ _)); exact BK216.out) hg (Kd.R_away HO230.out (fun _ hk => hk.2))); have n1_ := Aside0.mk (hb); have n2_ := Aside0.mk (ho); clear BK216; clear HB; clear HO230; have BK216 := n0_; have HB := n1_; have HO233 := n2_; clear n0_ n1_ n2_; clear ho hb hg hat) | ((with_reducible refine gate_dst (N := 87) rfl ?_); (try (refine gate_guard (by rfl) ?_; dsimp only)); refine Kd.R_lit k31 _ 31 ?hg (N := 87) ?hd (xs := ([(⟨t223, a2, 2, 1048576⟩ : S31)] : List (S31))) (inner := [.string t223, .string a2, .int .i64 2, .int .i64 1048576]) (ok := fun _ => True) (okp := fun _ => True) ?hr ?hp (fun _ hk => hk) trivial (Below.refl _ _) (Nat.le_refl _) (by simp) ?_; (case hd => rfl); (case hg => rfl); (case hr => first | (go_simp; done) | (go_simp; rfl)); (case hp => exact (Reps.c4 (show Kd.M k31 _ _ _ (⟨t223, a2, 2, 1048576⟩ : S31) [.string t223, .string a2, .int .i64 2, .int .i64 1048576] from (k31_mkM _ _ _ (⟨t223, a2, 2, 1048576⟩ : S31) )) (Reps.none _ _))); intro v235 w57 ho58 hb hg_ hnew_; clear hg_ hnew_; (first | rw [← Ny234.out] at ho58 | (simp only [Int.reduceToNat] at ho58; rw [← Ny234.out] at ho58)); have n0_ := Aside0.mk (Kd.R_elder' (by (with_reducible repeat (first | apply Kd.R_alloc | apply Kd.R_drewN | apply Kd.R_drew)); exact HO233.out) (Kd.R_base ho58) hb); have n1_ := Aside0.mk (Kd.R_lower (Kd.R_newB (Kd.R_new' ho58 (Kd.R_lt (by (with_reducible repeat (first | apply Kd.R_alloc | apply Kd.R_drewN | apply Kd.R_drew)); exact HO233.out))) (g := gb216) (o := .cells #[.string a3_0, .string a3_1, .int .i64 a3_2, .int .i64 a3_3] 31 (0, 0)) (by (with_reducible repeat (first | refine blk_drewN ?_ _ | refine blk_drew ?_ | refine blk_alloc ?_ _)); exact BK216.out)) (below_size (by repeat (first | (with_reducible first | exact HB.out | apply below_alloc | apply pw_below_drewN | apply below_drew1 | refine below_set ?_ GE216.out) | exact HB.out)))); have n2_ := Aside0.mk (blk_below (g := gb216) (o := .cells #[.string a3_0, .string a3_1, .int .i64 a3_2, .int .i64 a3_3] 31 (0, 0)) (by (with_reducible repeat (first | refine blk_drewN ?_ _ | refine blk_drew ?_ | refine blk_alloc ?_ _)); exact BK216.out) hb); have n3_ := Aside0.mk (below_step (by repeat (first | (with_reducible first | exact HB.out | apply below_alloc | apply pw_below_drewN | apply below_drew1 | refine below_set ?_ GE216.out) | exact HB.out)) hb); clear HO233; clear BK216; clear HB; have HO233 := n0_; have HO236 := n1_; have BK216 := n2_; have HB := n3_; clear n0_ n1_ n2_ n3_; clear hb ho58; obtain ⟨Ao60, co60, eo60⟩ := Kd.R_slice HO236.out; subst eo60) | ((with_reducible refine gate_builtin (b := .append) (xs := #[.tmp 83, .tmp 87]) rfl ?_); (try (refine gate_guard (by rfl) ?_; dsimp only)); at_builtin; refine Kd.R_append_rows k31 (w0 := w) w.heap.size rfl (.tmp 83) (.tmp 87) 22 31 (.agg #[(.string ⟨#[]⟩), (.string ⟨#[]⟩), (.int .i64 0), (.int .i64 0)]) 48 rfl Try.underlying22 info31 rfl (by decide) (by omega) v232 y231 y234 _ _ _ (fun k_ => some k_ ≠ (.slice Ao60 y234.length co60 : Value).ownBlock ∧ k_ ≠ gb216) (fun _ => False) rfl rfl ?aO ?aR (fun _ _ h => h) (fun _ h => h.elim) ?aF ?aB ?aS ?aL ?_; (case aR => repeat (first | exact (Kd.R_reads' HO236.out).2.2 | (with_reducible refine Kd.C_alloc ?_ _) | (with_reducible refine Kd.C_drewN ?_ _) | (with_reducible refine Kd.C_drew ?_))); (case aB => exact (by repeat (first | (with_reducible first | exact HB.out | apply below_alloc | apply pw_below_drewN | apply below_drew1 | refine below_set ?_ GE216.out) | exact HB.out))); (case aF => exact (fun k_ hk => ⟨Kd.fresh' (Kd.R_lt (by (with_reducible repeat (first | apply Kd.R_alloc | apply Kd.R_drewN | apply Kd.R_drew)); exact HO236.out)) k_ hk, Kd.freshB (g := gb216) (o := .cells #[.string a3_0, .string a3_1, .int .i64 a3_2, .int .i64 a3_3] 31 (0, 0)) (by (with_reducible repeat (first | refine blk_drewN ?_ _ | refine blk_drew ?_ | refine blk_alloc ?_ _)); exact BK216.out) k_ hk⟩)); (case aO => exact (by (with_reducible repeat (first | apply Kd.R_alloc | apply Kd.R_drewN | apply Kd.R_drew)); exact Kd.R_mono HO233.out (fun _ hk => ⟨hk.2, hk.1⟩))); (case aS => exact (below_size (by repeat (first | (with_reducible first | exact HB.out | apply below_alloc | apply pw_below_drewN | apply below_drew1 | refine below_set ?_ GE216.out) | exact HB.out)))); (case aL => have := LMc48.out; omega); intro v238 w59 ho hb hg hat; rw [← Ny237.out] at ho; have n0_ := Aside0.mk (blk_grown (g := gb216) (o := .cells #[.string a3_0, .string a3_1, .int .i64 a3_2, .int .i64 a3_3] 31 (0, 0)) (by (with_reducible repeat (first | refine blk_drewN ?_ _ | refine blk_drew ?_ | refine blk_alloc ?_ _)); exact BK216.out) hg (Kd.R_away HO233.out (fun _ hk => hk.1))); have n1_ := Aside0.mk (Kd.R_after (ok := (fun k_ => k_ ≠ gb216)) (by (with_reducible repeat (first | apply Kd.R_alloc | apply Kd.R_drewN | apply Kd.R_drew)); exact Kd.R_mono HO236.out (fun _ hk => ⟨hk.2, hk.1.2⟩)) hg hat); have n2_ := Aside0.mk (hb); have n3_ := Aside0.mk (ho); clear BK216; clear HO236; clear HB; clear HO233; have BK216 := n0_; have HO236 := n1_; have HB := n2_; have HO239 := n3_; clear n0_ n1_ n2_ n3_; clear ho hb hg hat; obtain ⟨Ao61, co61, eo61⟩ := Kd.R_slice HO239.out; subst eo61) | ((with_reducible refine gate_callee (f := 11) rfl ?_); refine goesL_ (some 92) rfl rfl Try.func11 (by kernel_rfl) rfl #[.string a0, .slice Ao61 y237.length co61] rfl (by (try simp only [List.map_toArray, List.map_cons, List.map_nil]); first | done | rfl | (simp only [List.length_drop, List.length_take]; rfl)) ?_; (with_reducible refine (endorse_Check.calls kj34 a0 _ _ y237 t240 t241 t242 _ ?side1 ?side2 A49.out).mono ?_); (case side1 => repeat (first | exact (Kd.R_reads' HO239.out).2.2 | (with_reducible refine Kd.C_alloc ?_ _) | (with_reducible refine Kd.C_drewN ?_ _) | (with_reducible refine Kd.C_drew ?_))); (case side2 => exact (Kd.R_reads' HO239.out).2.1); rintro e w62 ⟨rfl, hb⟩; refine ⟨_, rfl, ?_⟩; have n0_ := Aside0.mk (Kd.R_below (by (with_reducible repeat (first | apply Kd.R_alloc | apply Kd.R_drewN | apply Kd.R_drew)); exact HO236.out) hb); have n1_ := Aside0.mk (Kd.R_below (by (with_reducible repeat (first | apply Kd.R_alloc | apply Kd.R_drewN | apply Kd.R_drew)); exact HO239.out) hb); have n2_ := Aside0.mk (blk_below (g := gb216) (o := .cells #[.string a3_0, .string a3_1, .int .i64 a3_2, .int .i64 a3_3] 31 (0, 0)) (by (with_reducible repeat (first | refine blk_drewN ?_ _ | refine blk_drew ?_ | refine blk_alloc ?_ _)); exact BK216.out) hb); have n3_ := Aside0.mk (below_step (by repeat (first | (with_reducible first | exact HB.out | apply below_alloc | apply pw_below_drewN | apply below_drew1 | refine below_set ?_ GE216.out) | exact HB.out)) hb); clear HO236; clear HO239; clear BK216; clear HB; have HO236 := n0_; have HO239 := n1_; have BK216 := n2_; have HB := n3_; clear n0_ n1_ n2_ n3_; (try clear hb); (try clear hb2); (try clear hk); (try clear hi)))
                        have n0_ := Aside0.mk (Kd.R_drew HO236.out)
                        have n1_ := Aside0.mk (Kd.R_drew HO239.out)
                        have n2_ := Aside0.mk (blk_drew BK216.out)
                        have n3_ := Aside0.mk (below_drew1 HB.out)
                        clear HO236
                        clear HO239
                        clear BK216
                        clear HB
                        have HO236 := n0_
                        have HO239 := n1_
                        have BK216 := n2_
                        have HB := n3_
                        clear n0_ n1_ n2_ n3_
                        refine start_ (n := 15) (S := fun w' => w'.cell? ⟨gb216, 0, none⟩ = some (.string a3_0) ∧ w'.cell? ⟨gb216, 1, none⟩ = some (.string a3_1) ∧ w'.cell? ⟨gb216, 2, none⟩ = some (.int .i64 a3_2) ∧ w'.cell? ⟨gb216, 3, none⟩ = some (.int .i64 a3_3)) (ds := []) #[false, false, false, false, false, false, false, false, false, false, false, false, false, false, false] (by kernel_rfl) rfl rfl ⟨(blk_cell BK216.out 0).trans rfl, (blk_cell BK216.out 1).trans rfl, (blk_cell BK216.out 2).trans rfl, (blk_cell BK216.out 3).trans rfl⟩ (fun hHeld => ?_); refine with_tabW supercargolaw22_EndorseOnly.tab10 supercargolaw22_EndorseOnly.bits10 (fun HT_ HW_ => ?_)
                        generalize w62.drew = w63 at HO236 HO239 BK216 HB hHeld ⊢
                        refine pure_ (i := 0) (N := some 97) (v := ?_) (a' := ?_) #[true, false, false, false, false, false, false, false, false, false, false, false, false, false, false] rfl rfl (any_of HT_.out (by kernel_rfl)) (fun _ _ _ h => h) (Or.inl ⟨by rfl, ?_⟩) ?_ ?_
                        rotate_left
                        · intro w'
                          go_simp
                          with_reducible rfl
                        rotate_left
                        · simp only [Act.put, List.setIfInBounds_toArray, List.set_cons_zero, List.set_cons_succ, i64_w, i32_w]
                          rfl
                        refine pure_ (i := 2) (N := some 99) (v := ?_) (a' := ?_) #[true, false, true, false, false, false, false, false, false, false, false, false, false, false, false] rfl rfl (any_of HT_.out (by kernel_rfl)) (fun _ _ _ h => h) (Or.inl ⟨by rfl, ?_⟩) ?_ ?_
                        rotate_left
                        · intro w'
                          go_simp
                          with_reducible rfl
                        rotate_left
                        · simp only [Act.put, List.setIfInBounds_toArray, List.set_cons_zero, List.set_cons_succ, i64_w, i32_w]
                          rfl
                        refine take_ (i := 4) (N := some 101) (v := ?_) (a' := ?_) #[true, false, true, false, true, false, false, false, false, false, false, false, false, false, false] rfl rfl (take_ofW HT_.out HW_.out (by kernel_rfl)) (fun _ _ _ h => h) (Or.inl ⟨by rfl, ?_⟩) hHeld ?_ ?_
                        rotate_left
                        · rintro w' ⟨s0, s1, s2, s3⟩
                          go_simp
                          with_reducible rfl
                        rotate_left
                        · simp only [Act.put, List.setIfInBounds_toArray, List.set_cons_zero, List.set_cons_succ, i64_w, i32_w]
                          rfl
                        refine join_ (σ := Value × Value × Value) 9 #[true, true, true, true, true, true, false, false, false, false, false, false, false, false, false] (fun s_ => [(98, s_.1), (100, s_.2.1), (102, s_.2.2)]) (fun s_ w' => (w'.cell? ⟨gb216, 0, none⟩ = some (.string a3_0) ∧ w'.cell? ⟨gb216, 1, none⟩ = some (.string a3_1) ∧ w'.cell? ⟨gb216, 2, none⟩ = some (.int .i64 a3_2) ∧ w'.cell? ⟨gb216, 3, none⟩ = some (.int .i64 a3_3)) ∧ (Kd.R k31 31 w' w.heap.size (fun k_ => some k_ ≠ (.slice Ao61 y237.length co61 : Value).ownBlock ∧ some k_ ≠ (s_.2.1 : Value).ownBlock ∧ some k_ ≠ (s_.2.2 : Value).ownBlock ∧ k_ ≠ gb216) (.slice Ao60 y234.length co60) y234) ∧ (Kd.R k31 31 w' w.heap.size (fun k_ => some k_ ≠ (.slice Ao60 y234.length co60 : Value).ownBlock ∧ some k_ ≠ (s_.2.1 : Value).ownBlock ∧ some k_ ≠ (s_.2.2 : Value).ownBlock ∧ k_ ≠ gb216) (.slice Ao61 y237.length co61) y237) ∧ (Kd.R k31 31 w' w.heap.size (fun k_ => some k_ ≠ (.slice Ao60 y234.length co60 : Value).ownBlock ∧ some k_ ≠ (.slice Ao61 y237.length co61 : Value).ownBlock ∧ some k_ ≠ (s_.2.2 : Value).ownBlock ∧ k_ ≠ gb216) s_.2.1 y246) ∧ (Kd.R k31 31 w' w.heap.size (fun k_ => some k_ ≠ (.slice Ao60 y234.length co60 : Value).ownBlock ∧ some k_ ≠ (.slice Ao61 y237.length co61 : Value).ownBlock ∧ some k_ ≠ (s_.2.1 : Value).ownBlock ∧ k_ ≠ gb216) s_.2.2 y249) ∧ (w'.heap[gb216]? = some (.cells #[.string a3_0, .string a3_1, .int .i64 a3_2, .int .i64 a3_3] 31 (0, 0))) ∧ (Below w.heap.size w w')) ?_ ?_
                        rotate_left
                        · intro hCont
                          refine two_ (i := 1) (j := 5) (Ni := some 98) (Nj := some 102) #[true, true, true, false, true, false, false, false, false, false, false, false, false, false, false] #[true, false, true, false, true, true, false, false, false, false, false, false, false, false, false] rfl rfl rfl rfl (two_of HT_.out (by kernel_rfl)) (by decide) (by decide) (fun K hK => ?_) (fun K hK => ?_)
                          · skip
                            refine Kd.R_lit_step k31 _ 31 ?hg (N := 98) ?hd (xs := ([] : List (S31))) (inner := []) (ok := fun _ => True) (okp := fun _ => True) ?hr ?hp (fun _ hk => hk) trivial (Below.refl _ _) (Nat.le_refl _) (by simp) ?_; (case hd => rfl); (case hg => rfl); (case hr => first | (go_simp; done) | (go_simp; rfl)); (case hp => exact (Reps.none _ _))
                            intro v244 w64 ho65 hb hg_ hnew_
                            clear hg_ hnew_
                            (first | rw [← Ny243.out] at ho65 | (simp only [Int.reduceToNat] at ho65; rw [← Ny243.out] at ho65))
                            have n0_ := Aside0.mk (Kd.R_elder' (by (with_reducible repeat (first | apply Kd.R_alloc | apply Kd.R_drewN | apply Kd.R_drew)); exact HO236.out) (Kd.R_base ho65) hb)
                            have n1_ := Aside0.mk (Kd.R_elder' (by (with_reducible repeat (first | apply Kd.R_alloc | apply Kd.R_drewN | apply Kd.R_drew)); exact HO239.out) (Kd.R_base ho65) hb)
                            have n2_ := Aside0.mk (Kd.R_lower (Kd.R_newB (Kd.R_new' (Kd.R_new' ho65 (Kd.R_lt (by (with_reducible repeat (first | apply Kd.R_alloc | apply Kd.R_drewN | apply Kd.R_drew)); exact HO236.out))) (Kd.R_lt (by (with_reducible repeat (first | apply Kd.R_alloc | apply Kd.R_drewN | apply Kd.R_drew)); exact HO239.out))) (g := gb216) (o := .cells #[.string a3_0, .string a3_1, .int .i64 a3_2, .int .i64 a3_3] 31 (0, 0)) (by (with_reducible repeat (first | refine blk_drewN ?_ _ | refine blk_drew ?_ | refine blk_alloc ?_ _)); exact BK216.out)) (below_size (by repeat (first | (with_reducible first | exact HB.out | apply below_alloc | apply pw_below_drewN | apply below_drew1 | refine below_set ?_ GE216.out) | exact HB.out))))
                            have n3_ := Aside0.mk (blk_below (g := gb216) (o := .cells #[.string a3_0, .string a3_1, .int .i64 a3_2, .int .i64 a3_3] 31 (0, 0)) (by (with_reducible repeat (first | refine blk_drewN ?_ _ | refine blk_drew ?_ | refine blk_alloc ?_ _)); exact BK216.out) hb)
                            have n4_ := Aside0.mk (below_step (by repeat (first | (with_reducible first | exact HB.out | apply below_alloc | apply pw_below_drewN | apply below_drew1 | refine below_set ?_ GE216.out) | exact HB.out)) hb)
                            clear HO236
                            clear HO239
                            clear BK216
                            clear HB
                            have HO236 := n0_
                            have HO239 := n1_
                            have HO245 := n2_
                            have BK216 := n3_
                            have HB := n4_
                            clear n0_ n1_ n2_ n3_ n4_
                            clear hb ho65
                            refine hK.out _ _ ⟨(blk_cell BK216.out 0).trans rfl, (blk_cell BK216.out 1).trans rfl, (blk_cell BK216.out 2).trans rfl, (blk_cell BK216.out 3).trans rfl⟩ (fun hHeld => ?_)
                            clear hK K
                            refine norm_ (a' := ?_) ?_ ?_
                            rotate_left
                            · show Act.put _ (some 98) _ = _
                              simp only [Act.put, List.setIfInBounds_toArray, List.set_cons_zero, List.set_cons_succ, i64_w, i32_w]
                              rfl
                            refine two_ (i := 3) (j := 5) (Ni := some 100) (Nj := some 102) #[true, true, true, true, true, false, false, false, false, false, false, false, false, false, false] #[true, true, true, false, true, true, false, false, false, false, false, false, false, false, false] rfl rfl rfl rfl (two_of HT_.out (by kernel_rfl)) (by decide) (by decide) (fun K hK => ?_) (fun K hK => ?_)
                            · skip
                              refine Kd.R_append_rows_step k31 (w0 := w) w.heap.size (by rfl) (.tmp 98) (.tmp 99) 22 31 (.agg #[(.string ⟨#[]⟩), (.string ⟨#[]⟩), (.int .i64 0), (.int .i64 0)]) 48 rfl Try.underlying22 info31 rfl (by decide) (by omega) v244 y243 y237 _ _ _ (fun k_ => some k_ ≠ (.slice Ao60 y234.length co60 : Value).ownBlock ∧ some k_ ≠ (.slice Ao61 y237.length co61 : Value).ownBlock ∧ k_ ≠ gb216) (fun _ => False) rfl rfl ?aO ?aR (fun _ _ h => h) (fun _ h => h.elim) ?aF ?aB ?aS ?aL ?_
                              (case aR => repeat (first | exact (Kd.R_reads' HO239.out).2.2 | (with_reducible refine Kd.C_alloc ?_ _) | (with_reducible refine Kd.C_drewN ?_ _) | (with_reducible refine Kd.C_drew ?_)))
                              (case aB => exact (by repeat (first | (with_reducible first | exact HB.out | apply below_alloc | apply pw_below_drewN | apply below_drew1 | refine below_set ?_ GE216.out) | exact HB.out)))
                              (case aF => exact (fun k_ hk => ⟨Kd.fresh' (Kd.R_lt (by (with_reducible repeat (first | apply Kd.R_alloc | apply Kd.R_drewN | apply Kd.R_drew)); exact HO236.out)) k_ hk, Kd.fresh' (Kd.R_lt (by (with_reducible repeat (first | apply Kd.R_alloc | apply Kd.R_drewN | apply Kd.R_drew)); exact HO239.out)) k_ hk, Kd.freshB (g := gb216) (o := .cells #[.string a3_0, .string a3_1, .int .i64 a3_2, .int .i64 a3_3] 31 (0, 0)) (by (with_reducible repeat (first | refine blk_drewN ?_ _ | refine blk_drew ?_ | refine blk_alloc ?_ _)); exact BK216.out) k_ hk⟩))
                              (case aO => exact (by (with_reducible repeat (first | apply Kd.R_alloc | apply Kd.R_drewN | apply Kd.R_drew)); exact Kd.R_mono HO245.out (fun _ hk => ⟨hk.1.1.2, ⟨hk.1.2, hk.2⟩⟩)))
                              (case aS => exact (below_size (by repeat (first | (with_reducible first | exact HB.out | apply below_alloc | apply pw_below_drewN | apply below_drew1 | refine below_set ?_ GE216.out) | exact HB.out))))
                              (case aL => have := LMc50.out; omega)
                              intro v247 w66 ho hb hg hat
                              rw [← Ny246.out] at ho
                              have n0_ := Aside0.mk (blk_grown (g := gb216) (o := .cells #[.string a3_0, .string a3_1, .int .i64 a3_2, .int .i64 a3_3] 31 (0, 0)) (by (with_reducible repeat (first | refine blk_drewN ?_ _ | refine blk_drew ?_ | refine blk_alloc ?_ _)); exact BK216.out) hg (Kd.R_away HO245.out (fun _ hk => hk.2)))
                              have n1_ := Aside0.mk (Kd.R_after (ok := (fun k_ => some k_ ≠ (.slice Ao61 y237.length co61 : Value).ownBlock ∧ k_ ≠ gb216)) (by (with_reducible repeat (first | apply Kd.R_alloc | apply Kd.R_drewN | apply Kd.R_drew)); exact Kd.R_mono HO236.out (fun _ hk => ⟨⟨hk.1.2, hk.1.1⟩, hk.2⟩)) hg hat)
                              have n2_ := Aside0.mk (Kd.R_after (ok := (fun k_ => some k_ ≠ (.slice Ao60 y234.length co60 : Value).ownBlock ∧ k_ ≠ gb216)) (by (with_reducible repeat (first | apply Kd.R_alloc | apply Kd.R_drewN | apply Kd.R_drew)); exact HO239.out) hg hat)
                              have n3_ := Aside0.mk (hb)
                              have n4_ := Aside0.mk (ho)
                              clear BK216
                              clear HO236
                              clear HO239
                              clear HB
                              clear HO245
                              have BK216 := n0_
                              have HO236 := n1_
                              have HO239 := n2_
                              have HB := n3_
                              have HO248 := n4_
                              clear n0_ n1_ n2_ n3_ n4_
                              clear ho hb hg hat
                              refine hK.out _ _ ⟨(blk_cell BK216.out 0).trans rfl, (blk_cell BK216.out 1).trans rfl, (blk_cell BK216.out 2).trans rfl, (blk_cell BK216.out 3).trans rfl⟩ (fun hHeld => ?_)
                              clear hK K
                              refine norm_ (a' := ?_) ?_ ?_
                              rotate_left
                              · show Act.put _ (some 100) _ = _
                                simp only [Act.put, List.setIfInBounds_toArray, List.set_cons_zero, List.set_cons_succ, i64_w, i32_w]
                                rfl
                              refine one_ (i := 5) (N := some 102) #[true, true, true, true, true, true, false, false, false, false, false, false, false, false, false] rfl rfl (one_of HT_.out (by kernel_rfl)) (by decide) (fun K hK => ?_)
                              refine Kd.R_lit_step k31 _ 31 ?hg (N := 102) ?hd (xs := ([(⟨a3_0, a3_1, a3_2, a3_3⟩ : S31)] : List (S31))) (inner := [.string a3_0, .string a3_1, .int .i64 a3_2, .int .i64 a3_3]) (ok := fun _ => True) (okp := fun _ => True) ?hr ?hp (fun _ hk => hk) trivial (Below.refl _ _) (Nat.le_refl _) (by simp) ?_; (case hd => rfl); (case hg => rfl); (case hr => first | (go_simp; done) | (go_simp; rfl)); (case hp => exact (Reps.c4 (show Kd.M k31 _ _ _ (⟨a3_0, a3_1, a3_2, a3_3⟩ : S31) [.string a3_0, .string a3_1, .int .i64 a3_2, .int .i64 a3_3] from (k31_mkM _ _ _ (⟨a3_0, a3_1, a3_2, a3_3⟩ : S31) )) (Reps.none _ _)))
                              intro v250 w67 ho68 hb hg_ hnew_
                              clear hg_ hnew_
                              (first | rw [← Ny249.out] at ho68 | (simp only [Int.reduceToNat] at ho68; rw [← Ny249.out] at ho68))
                              have n0_ := Aside0.mk (Kd.R_elder' (by (with_reducible repeat (first | apply Kd.R_alloc | apply Kd.R_drewN | apply Kd.R_drew)); exact HO236.out) (Kd.R_base ho68) hb)
                              have n1_ := Aside0.mk (Kd.R_elder' (by (with_reducible repeat (first | apply Kd.R_alloc | apply Kd.R_drewN | apply Kd.R_drew)); exact HO239.out) (Kd.R_base ho68) hb)
                              have n2_ := Aside0.mk (Kd.R_elder' (by (with_reducible repeat (first | apply Kd.R_alloc | apply Kd.R_drewN | apply Kd.R_drew)); exact HO248.out) (Kd.R_base ho68) hb)
                              have n3_ := Aside0.mk (Kd.R_lower (Kd.R_newB (Kd.R_new' (Kd.R_new' (Kd.R_new' ho68 (Kd.R_lt (by (with_reducible repeat (first | apply Kd.R_alloc | apply Kd.R_drewN | apply Kd.R_drew)); exact HO236.out))) (Kd.R_lt (by (with_reducible repeat (first | apply Kd.R_alloc | apply Kd.R_drewN | apply Kd.R_drew)); exact HO239.out))) (Kd.R_lt (by (with_reducible repeat (first | apply Kd.R_alloc | apply Kd.R_drewN | apply Kd.R_drew)); exact HO248.out))) (g := gb216) (o := .cells #[.string a3_0, .string a3_1, .int .i64 a3_2, .int .i64 a3_3] 31 (0, 0)) (by (with_reducible repeat (first | refine blk_drewN ?_ _ | refine blk_drew ?_ | refine blk_alloc ?_ _)); exact BK216.out)) (below_size (by repeat (first | (with_reducible first | exact HB.out | apply below_alloc | apply pw_below_drewN | apply below_drew1 | refine below_set ?_ GE216.out) | exact HB.out))))
                              have n4_ := Aside0.mk (blk_below (g := gb216) (o := .cells #[.string a3_0, .string a3_1, .int .i64 a3_2, .int .i64 a3_3] 31 (0, 0)) (by (with_reducible repeat (first | refine blk_drewN ?_ _ | refine blk_drew ?_ | refine blk_alloc ?_ _)); exact BK216.out) hb)
                              have n5_ := Aside0.mk (below_step (by repeat (first | (with_reducible first | exact HB.out | apply below_alloc | apply pw_below_drewN | apply below_drew1 | refine below_set ?_ GE216.out) | exact HB.out)) hb)
                              clear HO236
                              clear HO239
                              clear HO248
                              clear BK216
                              clear HB
                              have HO236 := n0_
                              have HO239 := n1_
                              have HO248 := n2_
                              have HO251 := n3_
                              have BK216 := n4_
                              have HB := n5_
                              clear n0_ n1_ n2_ n3_ n4_ n5_
                              clear hb ho68
                              refine hK.out _ _ ⟨(blk_cell BK216.out 0).trans rfl, (blk_cell BK216.out 1).trans rfl, (blk_cell BK216.out 2).trans rfl, (blk_cell BK216.out 3).trans rfl⟩ (fun hHeld => ?_)
                              clear hK K
                              refine norm_ (a' := ?_) ?_ ?_
                              rotate_left
                              · show Act.put _ (some 102) _ = _
                                simp only [Act.put, List.setIfInBounds_toArray, List.set_cons_zero, List.set_cons_succ, i64_w, i32_w]
                                rfl
                              exact norm_ (by simp only [putAll, Act.put, List.setIfInBounds_toArray, List.set_cons_zero, List.set_cons_succ]) (hCont (v244, v247, v250) _ ⟨hHeld, (by (with_reducible repeat (first | apply Kd.R_alloc | apply Kd.R_drewN | apply Kd.R_drew)); exact Kd.R_mono HO236.out (fun _ hk => ⟨hk.1.1.1, ⟨hk.1.2, ⟨hk.2, hk.1.1.2⟩⟩⟩)), (by (with_reducible repeat (first | apply Kd.R_alloc | apply Kd.R_drewN | apply Kd.R_drew)); exact Kd.R_mono HO239.out (fun _ hk => ⟨hk.1.1.1, ⟨hk.1.2, ⟨hk.2, hk.1.1.2⟩⟩⟩)), (by (with_reducible repeat (first | apply Kd.R_alloc | apply Kd.R_drewN | apply Kd.R_drew)); exact Kd.R_mono HO248.out (fun _ hk => ⟨hk.1.1, ⟨hk.1.2.1, ⟨hk.2, hk.1.2.2⟩⟩⟩)), (by (with_reducible repeat (first | apply Kd.R_alloc | apply Kd.R_drewN | apply Kd.R_drew)); exact Kd.R_mono HO251.out (fun _ hk => ⟨hk.1.1.1.2, ⟨hk.1.1.2, ⟨hk.1.2, hk.2⟩⟩⟩)), (by (with_reducible repeat (first | refine blk_drewN ?_ _ | refine blk_drew ?_ | refine blk_alloc ?_ _)); exact BK216.out), (by repeat (first | (with_reducible first | exact HB.out | apply below_alloc | apply pw_below_drewN | apply below_drew1 | refine below_set ?_ GE216.out) | exact HB.out))⟩)
                            · skip
                              refine Kd.R_lit_step k31 _ 31 ?hg (N := 102) ?hd (xs := ([(⟨a3_0, a3_1, a3_2, a3_3⟩ : S31)] : List (S31))) (inner := [.string a3_0, .string a3_1, .int .i64 a3_2, .int .i64 a3_3]) (ok := fun _ => True) (okp := fun _ => True) ?hr ?hp (fun _ hk => hk) trivial (Below.refl _ _) (Nat.le_refl _) (by simp) ?_; (case hd => rfl); (case hg => rfl); (case hr => first | (go_simp; done) | (go_simp; rfl)); (case hp => exact (Reps.c4 (show Kd.M k31 _ _ _ (⟨a3_0, a3_1, a3_2, a3_3⟩ : S31) [.string a3_0, .string a3_1, .int .i64 a3_2, .int .i64 a3_3] from (k31_mkM _ _ _ (⟨a3_0, a3_1, a3_2, a3_3⟩ : S31) )) (Reps.none _ _)))
                              intro v250 w66 ho67 hb hg_ hnew_
                              clear hg_ hnew_
                              (first | rw [← Ny249.out] at ho67 | (simp only [Int.reduceToNat] at ho67; rw [← Ny249.out] at ho67))
                              have n0_ := Aside0.mk (Kd.R_elder' (by (with_reducible repeat (first | apply Kd.R_alloc | apply Kd.R_drewN | apply Kd.R_drew)); exact HO236.out) (Kd.R_base ho67) hb)
                              have n1_ := Aside0.mk (Kd.R_elder' (by (with_reducible repeat (first | apply Kd.R_alloc | apply Kd.R_drewN | apply Kd.R_drew)); exact HO239.out) (Kd.R_base ho67) hb)
                              have n2_ := Aside0.mk (Kd.R_elder' (by (with_reducible repeat (first | apply Kd.R_alloc | apply Kd.R_drewN | apply Kd.R_drew)); exact HO245.out) (Kd.R_base ho67) hb)
                              have n3_ := Aside0.mk (Kd.R_lower (Kd.R_newB (Kd.R_new' (Kd.R_new' (Kd.R_new' ho67 (Kd.R_lt (by (with_reducible repeat (first | apply Kd.R_alloc | apply Kd.R_drewN | apply Kd.R_drew)); exact HO236.out))) (Kd.R_lt (by (with_reducible repeat (first | apply Kd.R_alloc | apply Kd.R_drewN | apply Kd.R_drew)); exact HO239.out))) (Kd.R_lt (by (with_reducible repeat (first | apply Kd.R_alloc | apply Kd.R_drewN | apply Kd.R_drew)); exact HO245.out))) (g := gb216) (o := .cells #[.string a3_0, .string a3_1, .int .i64 a3_2, .int .i64 a3_3] 31 (0, 0)) (by (with_reducible repeat (first | refine blk_drewN ?_ _ | refine blk_drew ?_ | refine blk_alloc ?_ _)); exact BK216.out)) (below_size (by repeat (first | (with_reducible first | exact HB.out | apply below_alloc | apply pw_below_drewN | apply below_drew1 | refine below_set ?_ GE216.out) | exact HB.out))))
                              have n4_ := Aside0.mk (blk_below (g := gb216) (o := .cells #[.string a3_0, .string a3_1, .int .i64 a3_2, .int .i64 a3_3] 31 (0, 0)) (by (with_reducible repeat (first | refine blk_drewN ?_ _ | refine blk_drew ?_ | refine blk_alloc ?_ _)); exact BK216.out) hb)
                              have n5_ := Aside0.mk (below_step (by repeat (first | (with_reducible first | exact HB.out | apply below_alloc | apply pw_below_drewN | apply below_drew1 | refine below_set ?_ GE216.out) | exact HB.out)) hb)
                              clear HO236
                              clear HO239
                              clear HO245
                              clear BK216
                              clear HB
                              have HO236 := n0_
                              have HO239 := n1_
                              have HO245 := n2_
                              have HO251 := n3_
                              have BK216 := n4_
                              have HB := n5_
                              clear n0_ n1_ n2_ n3_ n4_ n5_
                              clear hb ho67
                              refine hK.out _ _ ⟨(blk_cell BK216.out 0).trans rfl, (blk_cell BK216.out 1).trans rfl, (blk_cell BK216.out 2).trans rfl, (blk_cell BK216.out 3).trans rfl⟩ (fun hHeld => ?_)
                              clear hK K
                              refine norm_ (a' := ?_) ?_ ?_
                              rotate_left
                              · show Act.put _ (some 102) _ = _
                                simp only [Act.put, List.setIfInBounds_toArray, List.set_cons_zero, List.set_cons_succ, i64_w, i32_w]
                                rfl
                              refine one_ (i := 3) (N := some 100) #[true, true, true, true, true, true, false, false, false, false, false, false, false, false, false] rfl rfl (one_of HT_.out (by kernel_rfl)) (by decide) (fun K hK => ?_)
                              refine Kd.R_append_rows_step k31 (w0 := w) w.heap.size (by rfl) (.tmp 98) (.tmp 99) 22 31 (.agg #[(.string ⟨#[]⟩), (.string ⟨#[]⟩), (.int .i64 0), (.int .i64 0)]) 48 rfl Try.underlying22 info31 rfl (by decide) (by omega) v244 y243 y237 _ _ _ (fun k_ => some k_ ≠ (.slice Ao60 y234.length co60 : Value).ownBlock ∧ some k_ ≠ (.slice Ao61 y237.length co61 : Value).ownBlock ∧ some k_ ≠ (v250 : Value).ownBlock ∧ k_ ≠ gb216) (fun _ => False) rfl rfl ?aO ?aR (fun _ _ h => h) (fun _ h => h.elim) ?aF ?aB ?aS ?aL ?_
                              (case aR => repeat (first | exact (Kd.R_reads' HO239.out).2.2 | (with_reducible refine Kd.C_alloc ?_ _) | (with_reducible refine Kd.C_drewN ?_ _) | (with_reducible refine Kd.C_drew ?_)))
                              (case aB => exact (by repeat (first | (with_reducible first | exact HB.out | apply below_alloc | apply pw_below_drewN | apply below_drew1 | refine below_set ?_ GE216.out) | exact HB.out)))
                              (case aF => exact (fun k_ hk => ⟨Kd.fresh' (Kd.R_lt (by (with_reducible repeat (first | apply Kd.R_alloc | apply Kd.R_drewN | apply Kd.R_drew)); exact HO236.out)) k_ hk, Kd.fresh' (Kd.R_lt (by (with_reducible repeat (first | apply Kd.R_alloc | apply Kd.R_drewN | apply Kd.R_drew)); exact HO239.out)) k_ hk, Kd.fresh' (Kd.R_lt (by (with_reducible repeat (first | apply Kd.R_alloc | apply Kd.R_drewN | apply Kd.R_drew)); exact HO251.out)) k_ hk, Kd.freshB (g := gb216) (o := .cells #[.string a3_0, .string a3_1, .int .i64 a3_2, .int .i64 a3_3] 31 (0, 0)) (by (with_reducible repeat (first | refine blk_drewN ?_ _ | refine blk_drew ?_ | refine blk_alloc ?_ _)); exact BK216.out) k_ hk⟩))
                              (case aO => exact (by (with_reducible repeat (first | apply Kd.R_alloc | apply Kd.R_drewN | apply Kd.R_drew)); exact Kd.R_mono HO245.out (fun _ hk => ⟨hk.1.1.1.2, ⟨hk.1.1.2, ⟨hk.2, hk.1.2⟩⟩⟩)))
                              (case aS => exact (below_size (by repeat (first | (with_reducible first | exact HB.out | apply below_alloc | apply pw_below_drewN | apply below_drew1 | refine below_set ?_ GE216.out) | exact HB.out))))
                              (case aL => have := LMc50.out; omega)
                              intro v247 w68 ho hb hg hat
                              rw [← Ny246.out] at ho
                              have n0_ := Aside0.mk (blk_grown (g := gb216) (o := .cells #[.string a3_0, .string a3_1, .int .i64 a3_2, .int .i64 a3_3] 31 (0, 0)) (by (with_reducible repeat (first | refine blk_drewN ?_ _ | refine blk_drew ?_ | refine blk_alloc ?_ _)); exact BK216.out) hg (Kd.R_away HO245.out (fun _ hk => hk.1.2)))
                              have n1_ := Aside0.mk (Kd.R_after (ok := (fun k_ => some k_ ≠ (.slice Ao61 y237.length co61 : Value).ownBlock ∧ some k_ ≠ (v250 : Value).ownBlock ∧ k_ ≠ gb216)) (by (with_reducible repeat (first | apply Kd.R_alloc | apply Kd.R_drewN | apply Kd.R_drew)); exact Kd.R_mono HO236.out (fun _ hk => ⟨⟨hk.1.1.2, ⟨hk.2, hk.1.1.1⟩⟩, hk.1.2⟩)) hg hat)
                              have n2_ := Aside0.mk (Kd.R_after (ok := (fun k_ => some k_ ≠ (.slice Ao60 y234.length co60 : Value).ownBlock ∧ some k_ ≠ (v250 : Value).ownBlock ∧ k_ ≠ gb216)) (by (with_reducible repeat (first | apply Kd.R_alloc | apply Kd.R_drewN | apply Kd.R_drew)); exact Kd.R_mono HO239.out (fun _ hk => ⟨⟨hk.1.1.1, ⟨hk.2, hk.1.1.2⟩⟩, hk.1.2⟩)) hg hat)
                              have n3_ := Aside0.mk (Kd.R_after (ok := (fun k_ => some k_ ≠ (.slice Ao60 y234.length co60 : Value).ownBlock ∧ some k_ ≠ (.slice Ao61 y237.length co61 : Value).ownBlock ∧ k_ ≠ gb216)) (by (with_reducible repeat (first | apply Kd.R_alloc | apply Kd.R_drewN | apply Kd.R_drew)); exact Kd.R_mono HO251.out (fun _ hk => ⟨⟨hk.1.1.1.2, ⟨hk.1.1.2, hk.2⟩⟩, hk.1.2⟩)) hg hat)
                              have n4_ := Aside0.mk (hb)
                              have n5_ := Aside0.mk (ho)
                              clear BK216
                              clear HO236
                              clear HO239
                              clear HO251
                              clear HB
                              clear HO245
                              have BK216 := n0_
                              have HO236 := n1_
                              have HO239 := n2_
                              have HO251 := n3_
                              have HB := n4_
                              have HO248 := n5_
                              clear n0_ n1_ n2_ n3_ n4_ n5_
                              clear ho hb hg hat
                              refine hK.out _ _ ⟨(blk_cell BK216.out 0).trans rfl, (blk_cell BK216.out 1).trans rfl, (blk_cell BK216.out 2).trans rfl, (blk_cell BK216.out 3).trans rfl⟩ (fun hHeld => ?_)
                              clear hK K
                              refine norm_ (a' := ?_) ?_ ?_
                              rotate_left
                              · show Act.put _ (some 100) _ = _
                                simp only [Act.put, List.setIfInBounds_toArray, List.set_cons_zero, List.set_cons_succ, i64_w, i32_w]
                                rfl
                              exact norm_ (by simp only [putAll, Act.put, List.setIfInBounds_toArray, List.set_cons_zero, List.set_cons_succ]) (hCont (v244, v247, v250) _ ⟨hHeld, (by (with_reducible repeat (first | apply Kd.R_alloc | apply Kd.R_drewN | apply Kd.R_drew)); exact Kd.R_mono HO236.out (fun _ hk => ⟨hk.1.1, ⟨hk.2, ⟨hk.1.2.1, hk.1.2.2⟩⟩⟩)), (by (with_reducible repeat (first | apply Kd.R_alloc | apply Kd.R_drewN | apply Kd.R_drew)); exact Kd.R_mono HO239.out (fun _ hk => ⟨hk.1.1, ⟨hk.2, ⟨hk.1.2.1, hk.1.2.2⟩⟩⟩)), (by (with_reducible repeat (first | apply Kd.R_alloc | apply Kd.R_drewN | apply Kd.R_drew)); exact HO248.out), (by (with_reducible repeat (first | apply Kd.R_alloc | apply Kd.R_drewN | apply Kd.R_drew)); exact Kd.R_mono HO251.out (fun _ hk => ⟨hk.1.1, ⟨hk.1.2.1, ⟨hk.2, hk.1.2.2⟩⟩⟩)), (by (with_reducible repeat (first | refine blk_drewN ?_ _ | refine blk_drew ?_ | refine blk_alloc ?_ _)); exact BK216.out), (by repeat (first | (with_reducible first | exact HB.out | apply below_alloc | apply pw_below_drewN | apply below_drew1 | refine below_set ?_ GE216.out) | exact HB.out))⟩)
                          · skip
                            refine Kd.R_lit_step k31 _ 31 ?hg (N := 102) ?hd (xs := ([(⟨a3_0, a3_1, a3_2, a3_3⟩ : S31)] : List (S31))) (inner := [.string a3_0, .string a3_1, .int .i64 a3_2, .int .i64 a3_3]) (ok := fun _ => True) (okp := fun _ => True) ?hr ?hp (fun _ hk => hk) trivial (Below.refl _ _) (Nat.le_refl _) (by simp) ?_; (case hd => rfl); (case hg => rfl); (case hr => first | (go_simp; done) | (go_simp; rfl)); (case hp => exact (Reps.c4 (show Kd.M k31 _ _ _ (⟨a3_0, a3_1, a3_2, a3_3⟩ : S31) [.string a3_0, .string a3_1, .int .i64 a3_2, .int .i64 a3_3] from (k31_mkM _ _ _ (⟨a3_0, a3_1, a3_2, a3_3⟩ : S31) )) (Reps.none _ _)))
                            intro v250 w64 ho65 hb hg_ hnew_
                            clear hg_ hnew_
                            (first | rw [← Ny249.out] at ho65 | (simp only [Int.reduceToNat] at ho65; rw [← Ny249.out] at ho65))
                            have n0_ := Aside0.mk (Kd.R_elder' (by (with_reducible repeat (first | apply Kd.R_alloc | apply Kd.R_drewN | apply Kd.R_drew)); exact HO236.out) (Kd.R_base ho65) hb)
                            have n1_ := Aside0.mk (Kd.R_elder' (by (with_reducible repeat (first | apply Kd.R_alloc | apply Kd.R_drewN | apply Kd.R_drew)); exact HO239.out) (Kd.R_base ho65) hb)
                            have n2_ := Aside0.mk (Kd.R_lower (Kd.R_newB (Kd.R_new' (Kd.R_new' ho65 (Kd.R_lt (by (with_reducible repeat (first | apply Kd.R_alloc | apply Kd.R_drewN | apply Kd.R_drew)); exact HO236.out))) (Kd.R_lt (by (with_reducible repeat (first | apply Kd.R_alloc | apply Kd.R_drewN | apply Kd.R_drew)); exact HO239.out))) (g := gb216) (o := .cells #[.string a3_0, .string a3_1, .int .i64 a3_2, .int .i64 a3_3] 31 (0, 0)) (by (with_reducible repeat (first | refine blk_drewN ?_ _ | refine blk_drew ?_ | refine blk_alloc ?_ _)); exact BK216.out)) (below_size (by repeat (first | (with_reducible first | exact HB.out | apply below_alloc | apply pw_below_drewN | apply below_drew1 | refine below_set ?_ GE216.out) | exact HB.out))))
                            have n3_ := Aside0.mk (blk_below (g := gb216) (o := .cells #[.string a3_0, .string a3_1, .int .i64 a3_2, .int .i64 a3_3] 31 (0, 0)) (by (with_reducible repeat (first | refine blk_drewN ?_ _ | refine blk_drew ?_ | refine blk_alloc ?_ _)); exact BK216.out) hb)
                            have n4_ := Aside0.mk (below_step (by repeat (first | (with_reducible first | exact HB.out | apply below_alloc | apply pw_below_drewN | apply below_drew1 | refine below_set ?_ GE216.out) | exact HB.out)) hb)
                            clear HO236
                            clear HO239
                            clear BK216
                            clear HB
                            have HO236 := n0_
                            have HO239 := n1_
                            have HO251 := n2_
                            have BK216 := n3_
                            have HB := n4_
                            clear n0_ n1_ n2_ n3_ n4_
                            clear hb ho65
                            refine hK.out _ _ ⟨(blk_cell BK216.out 0).trans rfl, (blk_cell BK216.out 1).trans rfl, (blk_cell BK216.out 2).trans rfl, (blk_cell BK216.out 3).trans rfl⟩ (fun hHeld => ?_)
                            clear hK K
                            refine norm_ (a' := ?_) ?_ ?_
                            rotate_left
                            · show Act.put _ (some 102) _ = _
                              simp only [Act.put, List.setIfInBounds_toArray, List.set_cons_zero, List.set_cons_succ, i64_w, i32_w]
                              rfl
                            refine one_ (i := 1) (N := some 98) #[true, true, true, false, true, true, false, false, false, false, false, false, false, false, false] rfl rfl (one_of HT_.out (by kernel_rfl)) (by decide) (fun K hK => ?_)
                            refine Kd.R_lit_step k31 _ 31 ?hg (N := 98) ?hd (xs := ([] : List (S31))) (inner := []) (ok := fun _ => True) (okp := fun _ => True) ?hr ?hp (fun _ hk => hk) trivial (Below.refl _ _) (Nat.le_refl _) (by simp) ?_; (case hd => rfl); (case hg => rfl); (case hr => first | (go_simp; done) | (go_simp; rfl)); (case hp => exact (Reps.none _ _))
                            intro v244 w66 ho67 hb hg_ hnew_
                            clear hg_ hnew_
                            (first | rw [← Ny243.out] at ho67 | (simp only [Int.reduceToNat] at ho67; rw [← Ny243.out] at ho67))
                            have n0_ := Aside0.mk (Kd.R_elder' (by (with_reducible repeat (first | apply Kd.R_alloc | apply Kd.R_drewN | apply Kd.R_drew)); exact HO236.out) (Kd.R_base ho67) hb)
                            have n1_ := Aside0.mk (Kd.R_elder' (by (with_reducible repeat (first | apply Kd.R_alloc | apply Kd.R_drewN | apply Kd.R_drew)); exact HO239.out) (Kd.R_base ho67) hb)
                            have n2_ := Aside0.mk (Kd.R_elder' (by (with_reducible repeat (first | apply Kd.R_alloc | apply Kd.R_drewN | apply Kd.R_drew)); exact HO251.out) (Kd.R_base ho67) hb)
                            have n3_ := Aside0.mk (Kd.R_lower (Kd.R_newB (Kd.R_new' (Kd.R_new' (Kd.R_new' ho67 (Kd.R_lt (by (with_reducible repeat (first | apply Kd.R_alloc | apply Kd.R_drewN | apply Kd.R_drew)); exact HO236.out))) (Kd.R_lt (by (with_reducible repeat (first | apply Kd.R_alloc | apply Kd.R_drewN | apply Kd.R_drew)); exact HO239.out))) (Kd.R_lt (by (with_reducible repeat (first | apply Kd.R_alloc | apply Kd.R_drewN | apply Kd.R_drew)); exact HO251.out))) (g := gb216) (o := .cells #[.string a3_0, .string a3_1, .int .i64 a3_2, .int .i64 a3_3] 31 (0, 0)) (by (with_reducible repeat (first | refine blk_drewN ?_ _ | refine blk_drew ?_ | refine blk_alloc ?_ _)); exact BK216.out)) (below_size (by repeat (first | (with_reducible first | exact HB.out | apply below_alloc | apply pw_below_drewN | apply below_drew1 | refine below_set ?_ GE216.out) | exact HB.out))))
                            have n4_ := Aside0.mk (blk_below (g := gb216) (o := .cells #[.string a3_0, .string a3_1, .int .i64 a3_2, .int .i64 a3_3] 31 (0, 0)) (by (with_reducible repeat (first | refine blk_drewN ?_ _ | refine blk_drew ?_ | refine blk_alloc ?_ _)); exact BK216.out) hb)
                            have n5_ := Aside0.mk (below_step (by repeat (first | (with_reducible first | exact HB.out | apply below_alloc | apply pw_below_drewN | apply below_drew1 | refine below_set ?_ GE216.out) | exact HB.out)) hb)
                            clear HO236
                            clear HO239
                            clear HO251
                            clear BK216
                            clear HB
                            have HO236 := n0_
                            have HO239 := n1_
                            have HO251 := n2_
                            have HO245 := n3_
                            have BK216 := n4_
                            have HB := n5_
                            clear n0_ n1_ n2_ n3_ n4_ n5_
                            clear hb ho67
                            refine hK.out _ _ ⟨(blk_cell BK216.out 0).trans rfl, (blk_cell BK216.out 1).trans rfl, (blk_cell BK216.out 2).trans rfl, (blk_cell BK216.out 3).trans rfl⟩ (fun hHeld => ?_)
                            clear hK K
                            refine norm_ (a' := ?_) ?_ ?_
                            rotate_left
                            · show Act.put _ (some 98) _ = _
                              simp only [Act.put, List.setIfInBounds_toArray, List.set_cons_zero, List.set_cons_succ, i64_w, i32_w]
                              rfl
                            refine one_ (i := 3) (N := some 100) #[true, true, true, true, true, true, false, false, false, false, false, false, false, false, false] rfl rfl (one_of HT_.out (by kernel_rfl)) (by decide) (fun K hK => ?_)
                            refine Kd.R_append_rows_step k31 (w0 := w) w.heap.size (by rfl) (.tmp 98) (.tmp 99) 22 31 (.agg #[(.string ⟨#[]⟩), (.string ⟨#[]⟩), (.int .i64 0), (.int .i64 0)]) 48 rfl Try.underlying22 info31 rfl (by decide) (by omega) v244 y243 y237 _ _ _ (fun k_ => some k_ ≠ (.slice Ao60 y234.length co60 : Value).ownBlock ∧ some k_ ≠ (.slice Ao61 y237.length co61 : Value).ownBlock ∧ some k_ ≠ (v250 : Value).ownBlock ∧ k_ ≠ gb216) (fun _ => False) rfl rfl ?aO ?aR (fun _ _ h => h) (fun _ h => h.elim) ?aF ?aB ?aS ?aL ?_
                            (case aR => repeat (first | exact (Kd.R_reads' HO239.out).2.2 | (with_reducible refine Kd.C_alloc ?_ _) | (with_reducible refine Kd.C_drewN ?_ _) | (with_reducible refine Kd.C_drew ?_)))
                            (case aB => exact (by repeat (first | (with_reducible first | exact HB.out | apply below_alloc | apply pw_below_drewN | apply below_drew1 | refine below_set ?_ GE216.out) | exact HB.out)))
                            (case aF => exact (fun k_ hk => ⟨Kd.fresh' (Kd.R_lt (by (with_reducible repeat (first | apply Kd.R_alloc | apply Kd.R_drewN | apply Kd.R_drew)); exact HO236.out)) k_ hk, Kd.fresh' (Kd.R_lt (by (with_reducible repeat (first | apply Kd.R_alloc | apply Kd.R_drewN | apply Kd.R_drew)); exact HO239.out)) k_ hk, Kd.fresh' (Kd.R_lt (by (with_reducible repeat (first | apply Kd.R_alloc | apply Kd.R_drewN | apply Kd.R_drew)); exact HO251.out)) k_ hk, Kd.freshB (g := gb216) (o := .cells #[.string a3_0, .string a3_1, .int .i64 a3_2, .int .i64 a3_3] 31 (0, 0)) (by (with_reducible repeat (first | refine blk_drewN ?_ _ | refine blk_drew ?_ | refine blk_alloc ?_ _)); exact BK216.out) k_ hk⟩))
                            (case aO => exact (by (with_reducible repeat (first | apply Kd.R_alloc | apply Kd.R_drewN | apply Kd.R_drew)); exact Kd.R_mono HO245.out (fun _ hk => ⟨hk.1.1.1.2, ⟨hk.1.1.2, ⟨hk.1.2, hk.2⟩⟩⟩)))
                            (case aS => exact (below_size (by repeat (first | (with_reducible first | exact HB.out | apply below_alloc | apply pw_below_drewN | apply below_drew1 | refine below_set ?_ GE216.out) | exact HB.out))))
                            (case aL => have := LMc50.out; omega)
                            intro v247 w68 ho hb hg hat
                            rw [← Ny246.out] at ho
                            have n0_ := Aside0.mk (blk_grown (g := gb216) (o := .cells #[.string a3_0, .string a3_1, .int .i64 a3_2, .int .i64 a3_3] 31 (0, 0)) (by (with_reducible repeat (first | refine blk_drewN ?_ _ | refine blk_drew ?_ | refine blk_alloc ?_ _)); exact BK216.out) hg (Kd.R_away HO245.out (fun _ hk => hk.2)))
                            have n1_ := Aside0.mk (Kd.R_after (ok := (fun k_ => some k_ ≠ (.slice Ao61 y237.length co61 : Value).ownBlock ∧ some k_ ≠ (v250 : Value).ownBlock ∧ k_ ≠ gb216)) (by (with_reducible repeat (first | apply Kd.R_alloc | apply Kd.R_drewN | apply Kd.R_drew)); exact Kd.R_mono HO236.out (fun _ hk => ⟨⟨hk.1.1.2, ⟨hk.1.2, hk.1.1.1⟩⟩, hk.2⟩)) hg hat)
                            have n2_ := Aside0.mk (Kd.R_after (ok := (fun k_ => some k_ ≠ (.slice Ao60 y234.length co60 : Value).ownBlock ∧ some k_ ≠ (v250 : Value).ownBlock ∧ k_ ≠ gb216)) (by (with_reducible repeat (first | apply Kd.R_alloc | apply Kd.R_drewN | apply Kd.R_drew)); exact Kd.R_mono HO239.out (fun _ hk => ⟨⟨hk.1.1.1, ⟨hk.1.2, hk.1.1.2⟩⟩, hk.2⟩)) hg hat)
                            have n3_ := Aside0.mk (Kd.R_after (ok := (fun k_ => some k_ ≠ (.slice Ao60 y234.length co60 : Value).ownBlock ∧ some k_ ≠ (.slice Ao61 y237.length co61 : Value).ownBlock ∧ k_ ≠ gb216)) (by (with_reducible repeat (first | apply Kd.R_alloc | apply Kd.R_drewN | apply Kd.R_drew)); exact Kd.R_mono HO251.out (fun _ hk => ⟨⟨hk.1.1.1.2, ⟨hk.1.1.2, hk.1.2⟩⟩, hk.2⟩)) hg hat)
                            have n4_ := Aside0.mk (hb)
                            have n5_ := Aside0.mk (ho)
                            clear BK216
                            clear HO236
                            clear HO239
                            clear HO251
                            clear HB
                            clear HO245
                            have BK216 := n0_
                            have HO236 := n1_
                            have HO239 := n2_
                            have HO251 := n3_
                            have HB := n4_
                            have HO248 := n5_
                            clear n0_ n1_ n2_ n3_ n4_ n5_
                            clear ho hb hg hat
                            refine hK.out _ _ ⟨(blk_cell BK216.out 0).trans rfl, (blk_cell BK216.out 1).trans rfl, (blk_cell BK216.out 2).trans rfl, (blk_cell BK216.out 3).trans rfl⟩ (fun hHeld => ?_)
                            clear hK K
                            refine norm_ (a' := ?_) ?_ ?_
                            rotate_left
                            · show Act.put _ (some 100) _ = _
                              simp only [Act.put, List.setIfInBounds_toArray, List.set_cons_zero, List.set_cons_succ, i64_w, i32_w]
                              rfl
                            exact norm_ (by simp only [putAll, Act.put, List.setIfInBounds_toArray, List.set_cons_zero, List.set_cons_succ]) (hCont (v244, v247, v250) _ ⟨hHeld, (by (with_reducible repeat (first | apply Kd.R_alloc | apply Kd.R_drewN | apply Kd.R_drew)); exact Kd.R_mono HO236.out (fun _ hk => ⟨hk.1.1, ⟨hk.2, ⟨hk.1.2.1, hk.1.2.2⟩⟩⟩)), (by (with_reducible repeat (first | apply Kd.R_alloc | apply Kd.R_drewN | apply Kd.R_drew)); exact Kd.R_mono HO239.out (fun _ hk => ⟨hk.1.1, ⟨hk.2, ⟨hk.1.2.1, hk.1.2.2⟩⟩⟩)), (by (with_reducible repeat (first | apply Kd.R_alloc | apply Kd.R_drewN | apply Kd.R_drew)); exact HO248.out), (by (with_reducible repeat (first | apply Kd.R_alloc | apply Kd.R_drewN | apply Kd.R_drew)); exact Kd.R_mono HO251.out (fun _ hk => ⟨hk.1.1, ⟨hk.1.2.1, ⟨hk.2, hk.1.2.2⟩⟩⟩)), (by (with_reducible repeat (first | refine blk_drewN ?_ _ | refine blk_drew ?_ | refine blk_alloc ?_ _)); exact BK216.out), (by repeat (first | (with_reducible first | exact HB.out | apply below_alloc | apply pw_below_drewN | apply below_drew1 | refine below_set ?_ GE216.out) | exact HB.out))⟩)
                        rintro ⟨v244, v247, v250⟩ w69 ⟨hS_, h0_, h1_, h2_, h3_, h4_, h5_⟩
                        have n0_ : Aside0 (Kd.R k31 31 w69 w.heap.size (fun k_ => some k_ ≠ (.slice Ao61 y237.length co61 : Value).ownBlock ∧ some k_ ≠ (v247 : Value).ownBlock ∧ some k_ ≠ (v250 : Value).ownBlock ∧ k_ ≠ gb216) (.slice Ao60 y234.length co60) y234) := ⟨h0_⟩
                        have n1_ : Aside0 (Kd.R k31 31 w69 w.heap.size (fun k_ => some k_ ≠ (.slice Ao60 y234.length co60 : Value).ownBlock ∧ some k_ ≠ (v247 : Value).ownBlock ∧ some k_ ≠ (v250 : Value).ownBlock ∧ k_ ≠ gb216) (.slice Ao61 y237.length co61) y237) := ⟨h1_⟩
                        have n2_ : Aside0 (Kd.R k31 31 w69 w.heap.size (fun k_ => some k_ ≠ (.slice Ao60 y234.length co60 : Value).ownBlock ∧ some k_ ≠ (.slice Ao61 y237.length co61 : Value).ownBlock ∧ some k_ ≠ (v250 : Value).ownBlock ∧ k_ ≠ gb216) v247 y246) := ⟨h2_⟩
                        have n3_ : Aside0 (Kd.R k31 31 w69 w.heap.size (fun k_ => some k_ ≠ (.slice Ao60 y234.length co60 : Value).ownBlock ∧ some k_ ≠ (.slice Ao61 y237.length co61 : Value).ownBlock ∧ some k_ ≠ (v247 : Value).ownBlock ∧ k_ ≠ gb216) v250 y249) := ⟨h3_⟩
                        have n4_ : Aside0 (w69.heap[gb216]? = some (.cells #[.string a3_0, .string a3_1, .int .i64 a3_2, .int .i64 a3_3] 31 (0, 0))) := ⟨h4_⟩
                        have n5_ : Aside0 (Below w.heap.size w w69) := ⟨h5_⟩
                        clear HO236
                        clear HO239
                        clear BK216
                        clear HB
                        clear h0_ h1_ h2_ h3_ h4_ h5_
                        have HO236 := n0_
                        have HO239 := n1_
                        have HO248 := n2_
                        have HO251 := n3_
                        have BK216 := n4_
                        have HB := n5_
                        clear n0_ n1_ n2_ n3_ n4_ n5_
                        have hHeld : w69.cell? ⟨gb216, 0, none⟩ = some (.string a3_0) ∧ w69.cell? ⟨gb216, 1, none⟩ = some (.string a3_1) ∧ w69.cell? ⟨gb216, 2, none⟩ = some (.int .i64 a3_2) ∧ w69.cell? ⟨gb216, 3, none⟩ = some (.int .i64 a3_3) := hS_
                        obtain ⟨Ao71, co71, eo71⟩ := Kd.R_slice HO251.out
                        (first | subst eo71 | (injection eo71 with f1_ f2_ f3_; have f4_ := f1_.symm; have f5_ := f3_.symm; clear f1_ f2_ f3_; subst f4_; subst f5_))
                        refine norm_ (a' := ?_) ?_ ?_
                        rotate_left
                        · simp only [putAll, Act.put, List.setIfInBounds_toArray, List.set_cons_zero, List.set_cons_succ]
                          rfl
                        refine one_ (i := 6) (N := some 103) #[true, true, true, true, true, true, true, false, false, false, false, false, false, false, false] rfl rfl (one_of HT_.out (by kernel_rfl)) (by decide) (fun K hK => ?_)
                        refine Kd.R_append_rows_step k31 (w0 := w) w.heap.size (by rfl) (.tmp 100) (.tmp 102) 22 31 (.agg #[(.string ⟨#[]⟩), (.string ⟨#[]⟩), (.int .i64 0), (.int .i64 0)]) 48 rfl Try.underlying22 info31 rfl (by decide) (by omega) v247 y246 y249 _ _ _ (fun k_ => some k_ ≠ (.slice Ao60 y234.length co60 : Value).ownBlock ∧ some k_ ≠ (.slice Ao61 y237.length co61 : Value).ownBlock ∧ some k_ ≠ (.slice Ao71 y249.length co71 : Value).ownBlock ∧ k_ ≠ gb216) (fun _ => False) rfl rfl ?aO ?aR (fun _ _ h => h) (fun _ h => h.elim) ?aF ?aB ?aS ?aL ?_
                        (case aR => repeat (first | exact (Kd.R_reads' HO251.out).2.2 | (with_reducible refine Kd.C_alloc ?_ _) | (with_reducible refine Kd.C_drewN ?_ _) | (with_reducible refine Kd.C_drew ?_)))
                        (case aB => exact (by repeat (first | (with_reducible first | exact HB.out | apply below_alloc | apply pw_below_drewN | apply below_drew1 | refine below_set ?_ GE216.out) | exact HB.out)))
                        (case aF => exact (fun k_ hk => ⟨Kd.fresh' (Kd.R_lt (by (with_reducible repeat (first | apply Kd.R_alloc | apply Kd.R_drewN | apply Kd.R_drew)); exact HO236.out)) k_ hk, Kd.fresh' (Kd.R_lt (by (with_reducible repeat (first | apply Kd.R_alloc | apply Kd.R_drewN | apply Kd.R_drew)); exact HO239.out)) k_ hk, Kd.fresh' (Kd.R_lt (by (with_reducible repeat (first | apply Kd.R_alloc | apply Kd.R_drewN | apply Kd.R_drew)); exact HO251.out)) k_ hk, Kd.freshB (g := gb216) (o := .cells #[.string a3_0, .string a3_1, .int .i64 a3_2, .int .i64 a3_3] 31 (0, 0)) (by (with_reducible repeat (first | refine blk_drewN ?_ _ | refine blk_drew ?_ | refine blk_alloc ?_ _)); exact BK216.out) k_ hk⟩))
                        (case aO => exact (by (with_reducible repeat (first | apply Kd.R_alloc | apply Kd.R_drewN | apply Kd.R_drew)); exact HO248.out))
                        (case aS => exact (below_size (by repeat (first | (with_reducible first | exact HB.out | apply below_alloc | apply pw_below_drewN | apply below_drew1 | refine below_set ?_ GE216.out) | exact HB.out))))
                        (case aL => have := LMc51.out; omega)
                        intro v253 w70 ho hb hg hat
                        rw [← Ny252.out] at ho
                        have n0_ := Aside0.mk (blk_grown (g := gb216) (o := .cells #[.string a3_0, .string a3_1, .int .i64 a3_2, .int .i64 a3_3] 31 (0, 0)) (by (with_reducible repeat (first | refine blk_drewN ?_ _ | refine blk_drew ?_ | refine blk_alloc ?_ _)); exact BK216.out) hg (Kd.R_away HO248.out (fun _ hk => hk.2.2.2)))
                        have n1_ := Aside0.mk (Kd.R_after (ok := (fun k_ => some k_ ≠ (.slice Ao61 y237.length co61 : Value).ownBlock ∧ some k_ ≠ (.slice Ao71 y249.length co71 : Value).ownBlock ∧ k_ ≠ gb216)) (by (with_reducible repeat (first | apply Kd.R_alloc | apply Kd.R_drewN | apply Kd.R_drew)); exact Kd.R_mono HO236.out (fun _ hk => ⟨⟨hk.1, ⟨hk.2.2.1, hk.2.2.2⟩⟩, hk.2.1⟩)) hg hat)
                        have n2_ := Aside0.mk (Kd.R_after (ok := (fun k_ => some k_ ≠ (.slice Ao60 y234.length co60 : Value).ownBlock ∧ some k_ ≠ (.slice Ao71 y249.length co71 : Value).ownBlock ∧ k_ ≠ gb216)) (by (with_reducible repeat (first | apply Kd.R_alloc | apply Kd.R_drewN | apply Kd.R_drew)); exact Kd.R_mono HO239.out (fun _ hk => ⟨⟨hk.1, ⟨hk.2.2.1, hk.2.2.2⟩⟩, hk.2.1⟩)) hg hat)
                        have n3_ := Aside0.mk (Kd.R_after (ok := (fun k_ => some k_ ≠ (.slice Ao60 y234.length co60 : Value).ownBlock ∧ some k_ ≠ (.slice Ao61 y237.length co61 : Value).ownBlock ∧ k_ ≠ gb216)) (by (with_reducible repeat (first | apply Kd.R_alloc | apply Kd.R_drewN | apply Kd.R_drew)); exact Kd.R_mono HO251.out (fun _ hk => ⟨⟨hk.1, ⟨hk.2.1, hk.2.2.2⟩⟩, hk.2.2.1⟩)) hg hat)
                        have n4_ := Aside0.mk (hb)
                        have n5_ := Aside0.mk (ho)
                        clear BK216
                        clear HO236
                        clear HO239
                        clear HO251
                        clear HB
                        clear HO248
                        have BK216 := n0_
                        have HO236 := n1_
                        have HO239 := n2_
                        have HO251 := n3_
                        have HB := n4_
                        have HO254 := n5_
                        clear n0_ n1_ n2_ n3_ n4_ n5_
                        clear ho hb hg hat
                        obtain ⟨Ao72, co72, eo72⟩ := Kd.R_slice HO254.out
                        (first | subst eo72 | (injection eo72 with f1_ f2_ f3_; have f4_ := f1_.symm; have f5_ := f3_.symm; clear f1_ f2_ f3_; subst f4_; subst f5_))
                        refine hK.out _ _ ⟨(blk_cell BK216.out 0).trans rfl, (blk_cell BK216.out 1).trans rfl, (blk_cell BK216.out 2).trans rfl, (blk_cell BK216.out 3).trans rfl⟩ (fun hHeld => ?_)
                        clear hK K
                        refine norm_ (a' := ?_) ?_ ?_
                        rotate_left
                        · show Act.put _ (some 103) _ = _
                          simp only [Act.put, List.setIfInBounds_toArray, List.set_cons_zero, List.set_cons_succ, i64_w, i32_w]
                          rfl
                        refine one_ (i := 7) (N := some 104) #[true, true, true, true, true, true, true, true, false, false, false, false, false, false, false] rfl rfl (one_of HT_.out (by kernel_rfl)) (by decide) (fun K hK => ?_)
                        refine goes_ Try.func11 (by kernel_rfl) rfl #[.string a0, .slice Ao72 y252.length co72] (by rfl) rfl rfl (by (try simp only [List.map_toArray, List.map_cons, List.map_nil]); first | done | rfl | (simp only [List.length_drop, List.length_take]; rfl)) ?_
                        with_reducible refine (endorse_Check.calls kj34 a0 _ _ y252 t255 t256 t257 _ ?side1 ?side2 A52.out).mono ?_
                        (case side1 => repeat (first | exact (Kd.R_reads' HO254.out).2.2 | (with_reducible refine Kd.C_alloc ?_ _) | (with_reducible refine Kd.C_drewN ?_ _) | (with_reducible refine Kd.C_drew ?_)))
                        (case side2 => exact (Kd.R_reads' HO254.out).2.1)
                        rintro e w73 ⟨rfl, hb⟩
                        refine ⟨_, rfl, ?_⟩
                        have n0_ := Aside0.mk (Kd.R_below (by (with_reducible repeat (first | apply Kd.R_alloc | apply Kd.R_drewN | apply Kd.R_drew)); exact HO236.out) hb)
                        have n1_ := Aside0.mk (Kd.R_below (by (with_reducible repeat (first | apply Kd.R_alloc | apply Kd.R_drewN | apply Kd.R_drew)); exact HO239.out) hb)
                        have n2_ := Aside0.mk (Kd.R_below (by (with_reducible repeat (first | apply Kd.R_alloc | apply Kd.R_drewN | apply Kd.R_drew)); exact HO251.out) hb)
                        have n3_ := Aside0.mk (Kd.R_below (by (with_reducible repeat (first | apply Kd.R_alloc | apply Kd.R_drewN | apply Kd.R_drew)); exact HO254.out) hb)
                        have n4_ := Aside0.mk (blk_below (g := gb216) (o := .cells #[.string a3_0, .string a3_1, .int .i64 a3_2, .int .i64 a3_3] 31 (0, 0)) (by (with_reducible repeat (first | refine blk_drewN ?_ _ | refine blk_drew ?_ | refine blk_alloc ?_ _)); exact BK216.out) hb)
                        have n5_ := Aside0.mk (below_step (by repeat (first | (with_reducible first | exact HB.out | apply below_alloc | apply pw_below_drewN | apply below_drew1 | refine below_set ?_ GE216.out) | exact HB.out)) hb)
                        clear HO236
                        clear HO239
                        clear HO251
                        clear HO254
                        clear BK216
                        clear HB
                        have HO236 := n0_
                        have HO239 := n1_
                        have HO251 := n2_
                        have HO254 := n3_
                        have BK216 := n4_
                        have HB := n5_
                        clear n0_ n1_ n2_ n3_ n4_ n5_
                        (try clear hb)
                        (try clear hb2)
                        (try clear hk)
                        (try clear hi)
                        refine hK.out _ _ ⟨(blk_cell BK216.out 0).trans rfl, (blk_cell BK216.out 1).trans rfl, (blk_cell BK216.out 2).trans rfl, (blk_cell BK216.out 3).trans rfl⟩ (fun hHeld => ?_)
                        clear hK K
                        refine norm_ (a' := ?_) ?_ ?_
                        rotate_left
                        · show Act.put _ (some 104) _ = _
                          simp only [Act.put, List.setIfInBounds_toArray, List.set_cons_zero, List.set_cons_succ, i64_w, i32_w]
                          rfl
                        refine pure_ (i := 8) (N := some 96) (v := ?_) (a' := ?_) #[true, true, true, true, true, true, true, true, true, false, false, false, false, false, false] rfl rfl (any_of HT_.out (by kernel_rfl)) (fun _ _ _ h => h) (Or.inl ⟨by rfl, ?_⟩) ?_ ?_
                        rotate_left
                        · intro w'
                          go_simp
                          with_reducible rfl
                        rotate_left
                        · simp only [Act.put, List.setIfInBounds_toArray, List.set_cons_zero, List.set_cons_succ, i64_w, i32_w]
                          rfl
                        refine pure_ (i := 9) (N := some 105) (v := ?_) (a' := ?_) #[true, true, true, true, true, true, true, true, true, true, false, false, false, false, false] rfl rfl (any_of HT_.out (by kernel_rfl)) (fun _ _ _ h => h) (Or.inl ⟨by rfl, ?_⟩) ?_ ?_
                        rotate_left
                        · intro w'
                          go_simp
                          with_reducible rfl
                        rotate_left
                        · simp only [Act.put, List.setIfInBounds_toArray, List.set_cons_zero, List.set_cons_succ, i64_w, i32_w]
                          rfl
                        refine pure_ (i := 10) (N := some 106) (v := ?_) (a' := ?_) #[true, true, true, true, true, true, true, true, true, true, true, false, false, false, false] rfl rfl (any_of HT_.out (by kernel_rfl)) (fun _ _ _ h => h) (Or.inl ⟨by rfl, ?_⟩) ?_ ?_
                        rotate_left
                        · intro w'
                          go_simp
                          with_reducible rfl
                        rotate_left
                        · simp only [Act.put, List.setIfInBounds_toArray, List.set_cons_zero, List.set_cons_succ, i64_w, i32_w]
                          rfl
                        refine pure_ (i := 11) (N := some 107) (v := ?_) (a' := ?_) #[true, true, true, true, true, true, true, true, true, true, true, true, false, false, false] rfl rfl (any_of HT_.out (by kernel_rfl)) (fun _ _ _ h => h) (Or.inl ⟨by rfl, ?_⟩) ?_ ?_
                        rotate_left
                        · intro w'
                          go_simp
                          with_reducible rfl
                        rotate_left
                        · simp only [Act.put, List.setIfInBounds_toArray, List.set_cons_zero, List.set_cons_succ, i64_w, i32_w]
                          rfl
                        refine pure_ (i := 12) (N := some 18) (v := ?_) (a' := ?_) #[true, true, true, true, true, true, true, true, true, true, true, true, true, false, false] rfl rfl (any_of HT_.out (by kernel_rfl)) (fun _ _ _ h => h) (Or.inl ⟨by rfl, ?_⟩) ?_ ?_
                        rotate_left
                        · intro w'
                          go_simp
                          with_reducible rfl
                        rotate_left
                        · simp only [Act.put, List.setIfInBounds_toArray, List.set_cons_zero, List.set_cons_succ, i64_w, i32_w]
                          rfl
                        refine pure_ (i := 13) (N := some 19) (v := ?_) (a' := ?_) #[true, true, true, true, true, true, true, true, true, true, true, true, true, true, false] rfl rfl (any_of HT_.out (by kernel_rfl)) (fun _ _ _ h => h) (Or.inl ⟨by rfl, ?_⟩) ?_ ?_
                        rotate_left
                        · intro w'
                          go_simp
                          with_reducible rfl
                        rotate_left
                        · simp only [Act.put, List.setIfInBounds_toArray, List.set_cons_zero, List.set_cons_succ, i64_w, i32_w]
                          rfl
                        refine pure_ (i := 14) (N := some 20) (v := ?_) (a' := ?_) #[true, true, true, true, true, true, true, true, true, true, true, true, true, true, true] rfl rfl (any_of HT_.out (by kernel_rfl)) (fun _ _ _ h => h) (Or.inl ⟨by rfl, ?_⟩) ?_ ?_
                        rotate_left
                        · intro w'
                          go_simp
                          with_reducible rfl
                        rotate_left
                        · simp only [Act.put, List.setIfInBounds_toArray, List.set_cons_zero, List.set_cons_succ, i64_w, i32_w]
                          rfl
                        refine done_ (done_of HT_.out (by kernel_rfl)) ?_
                        go_upto_region 11 with (fail)
                        go_cut [10] (fun v10 wc => ∃ (kq : Nat) (x10_52 : Bool), v10 = .bool x10_52 ∧ Aside0 (supercargolaw22_EndorseOnly.j2 kq x10_52 = some r) ∧ Aside0 (kq ≤ kj34) ∧ Aside0 (wc.heap[gb216]? = some (.cells #[.string a3_0, .string a3_1, .int .i64 a3_2, .int .i64 a3_3] 31 (0, 0))) ∧ Aside0 (Below w.heap.size w wc))
                        case first =>
                          have H := HC53.out
                          clear HC53
                          by_cases c74 : t240.toList = a2.toList
                          · rw [if_pos c74] at H
                            have c74b0 : (t240.toList == a2.toList) = true := beq_iff_eq.mpr c74
                            have c74b1 : (t240.toList != a2.toList) = false := bne_eq_false_iff_eq.mpr c74
                            clear c74
                            (first | rw [c74b0] | (simp only [i64_w, i32_w]; rw [c74b0]) | skip)
                            by_cases c75 : t241 = (wrap64 (t224 + 1))
                            · rw [if_pos c75] at H
                              have c75b0 : (t241 == (wrap64 (t224 + 1))) = true := beq_iff_eq.mpr c75
                              have c75b1 : (t241 != (wrap64 (t224 + 1))) = false := bne_eq_false_iff_eq.mpr c75
                              clear c75
                              by_cases c76 : t242 = 0
                              · rw [if_pos c76] at H
                                have c76b0 : (t242 == 0) = true := beq_iff_eq.mpr c76
                                have c76b1 : (t242 != 0) = false := bne_eq_false_iff_eq.mpr c76
                                clear c76
                                replace H := Option.bind_eq_some_iff.mp H
                                obtain ⟨t258, A770, H⟩ := H
                                replace H : (if t258 = true then (supercargolaw22_EndorseOnly.j2 kj34 false) else ((endorse_May.f kj34 a0 a4 y237).bind fun t259 => (if t259 = true then (supercargolaw22_EndorseOnly.j2 kj34 false) else (if t255.toList = ([] : List UInt8) then (if t256 = (wrap64 (t224 + 1)) then (if t257 = 9 then (supercargolaw22_EndorseOnly.j2 kj34 true) else (supercargolaw22_EndorseOnly.j2 kj34 (t257 == 2))) else (supercargolaw22_EndorseOnly.j2 kj34 false)) else (supercargolaw22_EndorseOnly.j2 kj34 false))))) = some r := H
                                have A77 := Aside0.mk A770
                                clear A770
                                by_cases c78 : t258 = true
                                · subst c78
                                  have H1 : (supercargolaw22_EndorseOnly.j2 kj34 false) = some r := by rw [if_pos rfl] at H; exact H
                                  clear H
                                  have H := H1
                                  clear H1
                                  have H' := Aside0.mk H
                                  clear H
                                  go_wp2_with (first | (go_at_call 12; (with_reducible refine (endorse_May.calls kj34 a0 a2 _ _ y237 true _ ?side1 ?side2 A77.out).mono ?_); (case side1 => repeat (first | exact (Kd.R_reads' HO239.out).2.2 | (with_reducible refine Kd.C_alloc ?_ _) | (with_reducible refine Kd.C_drewN ?_ _) | (with_reducible refine Kd.C_drew ?_))); (case side2 => exact (Kd.R_reads' HO239.out).2.1); rintro e w79 ⟨rfl, hb⟩; have n0_ := Aside0.mk (Kd.R_below (by (with_reducible repeat (first | apply Kd.R_alloc | apply Kd.R_drewN | apply Kd.R_drew)); exact HO236.out) hb); have n1_ := Aside0.mk (Kd.R_below (by (with_reducible repeat (first | apply Kd.R_alloc | apply Kd.R_drewN | apply Kd.R_drew)); exact HO239.out) hb); have n2_ := Aside0.mk (Kd.R_below (by (with_reducible repeat (first | apply Kd.R_alloc | apply Kd.R_drewN | apply Kd.R_drew)); exact HO251.out) hb); have n3_ := Aside0.mk (Kd.R_below (by (with_reducible repeat (first | apply Kd.R_alloc | apply Kd.R_drewN | apply Kd.R_drew)); exact HO254.out) hb); have n4_ := Aside0.mk (blk_below (g := gb216) (o := .cells #[.string a3_0, .string a3_1, .int .i64 a3_2, .int .i64 a3_3] 31 (0, 0)) (by (with_reducible repeat (first | refine blk_drewN ?_ _ | refine blk_drew ?_ | refine blk_alloc ?_ _)); exact BK216.out) hb); have n5_ := Aside0.mk (below_step (by repeat (first | (with_reducible first | exact HB.out | apply below_alloc | apply pw_below_drewN | apply below_drew1 | refine below_set ?_ GE216.out) | exact HB.out)) hb); clear HO236; clear HO239; clear HO251; clear HO254; clear BK216; clear HB; have HO236 := n0_; have HO239 := n1_; have HO251 := n2_; have HO254 := n3_; have BK216 := n4_; have HB := n5_; clear n0_ n1_ n2_ n3_ n4_ n5_; (try clear hb); (try clear hb2); (try clear hk); (try clear hi)))
                                  go_meet
                                  case rel => exact ⟨_, (false), (by first | rfl | (simp; done) | (simp [*]; done)), H', ⟨by have := HJ7.out; have := HJ34.out; first | omega | exact Nat.le_refl _⟩, ⟨by (with_reducible repeat (first | refine blk_drewN ?_ _ | refine blk_drew ?_ | refine blk_alloc ?_ _)); exact BK216.out⟩, ⟨by repeat (first | (with_reducible first | exact HB.out | apply below_alloc | apply pw_below_drewN | apply below_drew1 | refine below_set ?_ GE216.out) | exact HB.out)⟩⟩
                                · replace c78 := Bool.eq_false_iff.mpr c78
                                  subst c78
                                  have H1 : ((endorse_May.f kj34 a0 a4 y237).bind fun t259 => (if t259 = true then (supercargolaw22_EndorseOnly.j2 kj34 false) else (if t255.toList = ([] : List UInt8) then (if t256 = (wrap64 (t224 + 1)) then (if t257 = 9 then (supercargolaw22_EndorseOnly.j2 kj34 true) else (supercargolaw22_EndorseOnly.j2 kj34 (t257 == 2))) else (supercargolaw22_EndorseOnly.j2 kj34 false)) else (supercargolaw22_EndorseOnly.j2 kj34 false)))) = some r := by rw [if_neg (show ¬ (false = true) by decide)] at H; exact H
                                  clear H
                                  have H := H1
                                  clear H1
                                  replace H := Option.bind_eq_some_iff.mp H
                                  obtain ⟨t259, A800, H⟩ := H
                                  replace H : (if t259 = true then (supercargolaw22_EndorseOnly.j2 kj34 false) else (if t255.toList = ([] : List UInt8) then (if t256 = (wrap64 (t224 + 1)) then (if t257 = 9 then (supercargolaw22_EndorseOnly.j2 kj34 true) else (supercargolaw22_EndorseOnly.j2 kj34 (t257 == 2))) else (supercargolaw22_EndorseOnly.j2 kj34 false)) else (supercargolaw22_EndorseOnly.j2 kj34 false))) = some r := H
                                  have A80 := Aside0.mk A800
                                  clear A800
                                  by_cases c81 : t259 = true
                                  · subst c81
                                    have H1 : (supercargolaw22_EndorseOnly.j2 kj34 false) = some r := by rw [if_pos rfl] at H; exact H
                                    clear H
                                    have H := H1
                                    clear H1
                                    have H' := Aside0.mk H
                                    clear H
                                    go_wp2_with (first | (go_at_call 12; (with_reducible refine (endorse_May.calls kj34 a0 a2 _ _ y237 false _ ?side1 ?side2 A77.out).mono ?_); (case side1 => repeat (first | exact (Kd.R_reads' HO239.out).2.2 | (with_reducible refine Kd.C_alloc ?_ _) | (with_reducible refine Kd.C_drewN ?_ _) | (with_reducible refine Kd.C_drew ?_))); (case side2 => exact (Kd.R_reads' HO239.out).2.1); rintro e w82 ⟨rfl, hb⟩; have n0_ := Aside0.mk (Kd.R_below (by (with_reducible repeat (first | apply Kd.R_alloc | apply Kd.R_drewN | apply Kd.R_drew)); exact HO236.out) hb); have n1_ := Aside0.mk (Kd.R_below (by (with_reducible repeat (first | apply Kd.R_alloc | apply Kd.R_drewN | apply Kd.R_drew)); exact HO239.out) hb); have n2_ := Aside0.mk (Kd.R_below (by (with_reducible repeat (first | apply Kd.R_alloc | apply Kd.R_drewN | apply Kd.R_drew)); exact HO251.out) hb); have n3_ := Aside0.mk (Kd.R_below (by (with_reducible repeat (first | apply Kd.R_alloc | apply Kd.R_drewN | apply Kd.R_drew)); exact HO254.out) hb); have n4_ := Aside0.mk (blk_below (g := gb216) (o := .cells #[.string a3_0, .string a3_1, .int .i64 a3_2, .int .i64 a3_3] 31 (0, 0)) (by (with_reducible repeat (first | refine blk_drewN ?_ _ | refine blk_drew ?_ | refine blk_alloc ?_ _)); exact BK216.out) hb); have n5_ := Aside0.mk (below_step (by repeat (first | (with_reducible first | exact HB.out | apply below_alloc | apply pw_below_drewN | apply below_drew1 | refine below_set ?_ GE216.out) | exact HB.out)) hb); clear HO236; clear HO239; clear HO251; clear HO254; clear BK216; clear HB; have HO236 := n0_; have HO239 := n1_; have HO251 := n2_; have HO254 := n3_; have BK216 := n4_; have HB := n5_; clear n0_ n1_ n2_ n3_ n4_ n5_; (try clear hb); (try clear hb2); (try clear hk); (try clear hi)) | (go_at_call 12; (with_reducible refine (endorse_May.calls kj34 a0 a4 _ _ y237 true _ ?side1 ?side2 A80.out).mono ?_); (case side1 => repeat (first | exact (Kd.R_reads' HO239.out).2.2 | (with_reducible refine Kd.C_alloc ?_ _) | (with_reducible refine Kd.C_drewN ?_ _) | (with_reducible refine Kd.C_drew ?_))); (case side2 => exact (Kd.R_reads' HO239.out).2.1); rintro e w83 ⟨rfl, hb⟩; have n0_ := Aside0.mk (Kd.R_below (by (with_reducible repeat (first | apply Kd.R_alloc | apply Kd.R_drewN | apply Kd.R_drew)); exact HO236.out) hb); have n1_ := Aside0.mk (Kd.R_below (by (with_reducible repeat (first | apply Kd.R_alloc | apply Kd.R_drewN | apply Kd.R_drew)); exact HO239.out) hb); have n2_ := Aside0.mk (Kd.R_below (by (with_reducible repeat (first | apply Kd.R_alloc | apply Kd.R_drewN | apply Kd.R_drew)); exact HO251.out) hb); have n3_ := Aside0.mk (Kd.R_below (by (with_reducible repeat (first | apply Kd.R_alloc | apply Kd.R_drewN | apply Kd.R_drew)); exact HO254.out) hb); have n4_ := Aside0.mk (blk_below (g := gb216) (o := .cells #[.string a3_0, .string a3_1, .int .i64 a3_2, .int .i64 a3_3] 31 (0, 0)) (by (with_reducible repeat (first | refine blk_drewN ?_ _ | refine blk_drew ?_ | refine blk_alloc ?_ _)); exact BK216.out) hb); have n5_ := Aside0.mk (below_step (by repeat (first | (with_reducible first | exact HB.out | apply below_alloc | apply pw_below_drewN | apply below_drew1 | refine below_set ?_ GE216.out) | exact HB.out)) hb); clear HO236; clear HO239; clear HO251; clear HO254; clear BK216; clear HB; have HO236 := n0_; have HO239 := n1_; have HO251 := n2_; have HO254 := n3_; have BK216 := n4_; have HB := n5_; clear n0_ n1_ n2_ n3_ n4_ n5_; (try clear hb); (try clear hb2); (try clear hk); (try clear hi)))
                                    go_meet
                                    case rel => exact ⟨_, (false), (by first | rfl | (simp; done) | (simp [*]; done)), H', ⟨by have := HJ7.out; have := HJ34.out; first | omega | exact Nat.le_refl _⟩, ⟨by (with_reducible repeat (first | refine blk_drewN ?_ _ | refine blk_drew ?_ | refine blk_alloc ?_ _)); exact BK216.out⟩, ⟨by repeat (first | (with_reducible first | exact HB.out | apply below_alloc | apply pw_below_drewN | apply below_drew1 | refine below_set ?_ GE216.out) | exact HB.out)⟩⟩
                                  · replace c81 := Bool.eq_false_iff.mpr c81
                                    subst c81
                                    have H1 : (if t255.toList = ([] : List UInt8) then (if t256 = (wrap64 (t224 + 1)) then (if t257 = 9 then (supercargolaw22_EndorseOnly.j2 kj34 true) else (supercargolaw22_EndorseOnly.j2 kj34 (t257 == 2))) else (supercargolaw22_EndorseOnly.j2 kj34 false)) else (supercargolaw22_EndorseOnly.j2 kj34 false)) = some r := by rw [if_neg (show ¬ (false = true) by decide)] at H; exact H
                                    clear H
                                    have H := H1
                                    clear H1
                                    by_cases c84 : t255.toList = ([] : List UInt8)
                                    · rw [if_pos c84] at H
                                      have c84b0 : (t255.toList == ([] : List UInt8)) = true := beq_iff_eq.mpr c84
                                      have c84b1 : (t255.toList != ([] : List UInt8)) = false := bne_eq_false_iff_eq.mpr c84
                                      clear c84
                                      by_cases c85 : t256 = (wrap64 (t224 + 1))
                                      · rw [if_pos c85] at H
                                        have c85b0 : (t256 == (wrap64 (t224 + 1))) = true := beq_iff_eq.mpr c85
                                        have c85b1 : (t256 != (wrap64 (t224 + 1))) = false := bne_eq_false_iff_eq.mpr c85
                                        clear c85
                                        by_cases c86 : t257 = 9
                                        · rw [if_pos c86] at H
                                          have c86b0 : (t257 == 9) = true := beq_iff_eq.mpr c86
                                          have c86b1 : (t257 != 9) = false := bne_eq_false_iff_eq.mpr c86
                                          clear c86
                                          have H' := Aside0.mk H
                                          clear H
                                          go_wp2_with (first | (go_at_call 12; (with_reducible refine (endorse_May.calls kj34 a0 a2 _ _ y237 false _ ?side1 ?side2 A77.out).mono ?_); (case side1 => repeat (first | exact (Kd.R_reads' HO239.out).2.2 | (with_reducible refine Kd.C_alloc ?_ _) | (with_reducible refine Kd.C_drewN ?_ _) | (with_reducible refine Kd.C_drew ?_))); (case side2 => exact (Kd.R_reads' HO239.out).2.1); rintro e w87 ⟨rfl, hb⟩; have n0_ := Aside0.mk (Kd.R_below (by (with_reducible repeat (first | apply Kd.R_alloc | apply Kd.R_drewN | apply Kd.R_drew)); exact HO236.out) hb); have n1_ := Aside0.mk (Kd.R_below (by (with_reducible repeat (first | apply Kd.R_alloc | apply Kd.R_drewN | apply Kd.R_drew)); exact HO239.out) hb); have n2_ := Aside0.mk (Kd.R_below (by (with_reducible repeat (first | apply Kd.R_alloc | apply Kd.R_drewN | apply Kd.R_drew)); exact HO251.out) hb); have n3_ := Aside0.mk (Kd.R_below (by (with_reducible repeat (first | apply Kd.R_alloc | apply Kd.R_drewN | apply Kd.R_drew)); exact HO254.out) hb); have n4_ := Aside0.mk (blk_below (g := gb216) (o := .cells #[.string a3_0, .string a3_1, .int .i64 a3_2, .int .i64 a3_3] 31 (0, 0)) (by (with_reducible repeat (first | refine blk_drewN ?_ _ | refine blk_drew ?_ | refine blk_alloc ?_ _)); exact BK216.out) hb); have n5_ := Aside0.mk (below_step (by repeat (first | (with_reducible first | exact HB.out | apply below_alloc | apply pw_below_drewN | apply below_drew1 | refine below_set ?_ GE216.out) | exact HB.out)) hb); clear HO236; clear HO239; clear HO251; clear HO254; clear BK216; clear HB; have HO236 := n0_; have HO239 := n1_; have HO251 := n2_; have HO254 := n3_; have BK216 := n4_; have HB := n5_; clear n0_ n1_ n2_ n3_ n4_ n5_; (try clear hb); (try clear hb2); (try clear hk); (try clear hi)) | (go_at_call 12; (with_reducible refine (endorse_May.calls kj34 a0 a4 _ _ y237 false _ ?side1 ?side2 A80.out).mono ?_); (case side1 => repeat (first | exact (Kd.R_reads' HO239.out).2.2 | (with_reducible refine Kd.C_alloc ?_ _) | (with_reducible refine Kd.C_drewN ?_ _) | (with_reducible refine Kd.C_drew ?_))); (case side2 => exact (Kd.R_reads' HO239.out).2.1); rintro e w88 ⟨rfl, hb⟩; have n0_ := Aside0.mk (Kd.R_below (by (with_reducible repeat (first | apply Kd.R_alloc | apply Kd.R_drewN | apply Kd.R_drew)); exact HO236.out) hb); have n1_ := Aside0.mk (Kd.R_below (by (with_reducible repeat (first | apply Kd.R_alloc | apply Kd.R_drewN | apply Kd.R_drew)); exact HO239.out) hb); have n2_ := Aside0.mk (Kd.R_below (by (with_reducible repeat (first | apply Kd.R_alloc | apply Kd.R_drewN | apply Kd.R_drew)); exact HO251.out) hb); have n3_ := Aside0.mk (Kd.R_below (by (with_reducible repeat (first | apply Kd.R_alloc | apply Kd.R_drewN | apply Kd.R_drew)); exact HO254.out) hb); have n4_ := Aside0.mk (blk_below (g := gb216) (o := .cells #[.string a3_0, .string a3_1, .int .i64 a3_2, .int .i64 a3_3] 31 (0, 0)) (by (with_reducible repeat (first | refine blk_drewN ?_ _ | refine blk_drew ?_ | refine blk_alloc ?_ _)); exact BK216.out) hb); have n5_ := Aside0.mk (below_step (by repeat (first | (with_reducible first | exact HB.out | apply below_alloc | apply pw_below_drewN | apply below_drew1 | refine below_set ?_ GE216.out) | exact HB.out)) hb); clear HO236; clear HO239; clear HO251; clear HO254; clear BK216; clear HB; have HO236 := n0_; have HO239 := n1_; have HO251 := n2_; have HO254 := n3_; have BK216 := n4_; have HB := n5_; clear n0_ n1_ n2_ n3_ n4_ n5_; (try clear hb); (try clear hb2); (try clear hk); (try clear hi)))
                                          go_meet
                                          case rel => exact ⟨_, (true), (by first | rfl | (simp; done) | (simp [*]; done)), H', ⟨by have := HJ7.out; have := HJ34.out; first | omega | exact Nat.le_refl _⟩, ⟨by (with_reducible repeat (first | refine blk_drewN ?_ _ | refine blk_drew ?_ | refine blk_alloc ?_ _)); exact BK216.out⟩, ⟨by repeat (first | (with_reducible first | exact HB.out | apply below_alloc | apply pw_below_drewN | apply below_drew1 | refine below_set ?_ GE216.out) | exact HB.out)⟩⟩
                                        · rw [if_neg c86] at H
                                          have c86b0 : (t257 == 9) = false := beq_eq_false_iff_ne.mpr c86
                                          have c86b1 : (t257 != 9) = true := bne_iff_ne.mpr c86
                                          have H' := Aside0.mk H
                                          clear H
                                          go_wp2_with (first | (go_at_call 12; (with_reducible refine (endorse_May.calls kj34 a0 a2 _ _ y237 false _ ?side1 ?side2 A77.out).mono ?_); (case side1 => repeat (first | exact (Kd.R_reads' HO239.out).2.2 | (with_reducible refine Kd.C_alloc ?_ _) | (with_reducible refine Kd.C_drewN ?_ _) | (with_reducible refine Kd.C_drew ?_))); (case side2 => exact (Kd.R_reads' HO239.out).2.1); rintro e w89 ⟨rfl, hb⟩; have n0_ := Aside0.mk (Kd.R_below (by (with_reducible repeat (first | apply Kd.R_alloc | apply Kd.R_drewN | apply Kd.R_drew)); exact HO236.out) hb); have n1_ := Aside0.mk (Kd.R_below (by (with_reducible repeat (first | apply Kd.R_alloc | apply Kd.R_drewN | apply Kd.R_drew)); exact HO239.out) hb); have n2_ := Aside0.mk (Kd.R_below (by (with_reducible repeat (first | apply Kd.R_alloc | apply Kd.R_drewN | apply Kd.R_drew)); exact HO251.out) hb); have n3_ := Aside0.mk (Kd.R_below (by (with_reducible repeat (first | apply Kd.R_alloc | apply Kd.R_drewN | apply Kd.R_drew)); exact HO254.out) hb); have n4_ := Aside0.mk (blk_below (g := gb216) (o := .cells #[.string a3_0, .string a3_1, .int .i64 a3_2, .int .i64 a3_3] 31 (0, 0)) (by (with_reducible repeat (first | refine blk_drewN ?_ _ | refine blk_drew ?_ | refine blk_alloc ?_ _)); exact BK216.out) hb); have n5_ := Aside0.mk (below_step (by repeat (first | (with_reducible first | exact HB.out | apply below_alloc | apply pw_below_drewN | apply below_drew1 | refine below_set ?_ GE216.out) | exact HB.out)) hb); clear HO236; clear HO239; clear HO251; clear HO254; clear BK216; clear HB; have HO236 := n0_; have HO239 := n1_; have HO251 := n2_; have HO254 := n3_; have BK216 := n4_; have HB := n5_; clear n0_ n1_ n2_ n3_ n4_ n5_; (try clear hb); (try clear hb2); (try clear hk); (try clear hi)) | (go_at_call 12; (with_reducible refine (endorse_May.calls kj34 a0 a4 _ _ y237 false _ ?side1 ?side2 A80.out).mono ?_); (case side1 => repeat (first | exact (Kd.R_reads' HO239.out).2.2 | (with_reducible refine Kd.C_alloc ?_ _) | (with_reducible refine Kd.C_drewN ?_ _) | (with_reducible refine Kd.C_drew ?_))); (case side2 => exact (Kd.R_reads' HO239.out).2.1); rintro e w90 ⟨rfl, hb⟩; have n0_ := Aside0.mk (Kd.R_below (by (with_reducible repeat (first | apply Kd.R_alloc | apply Kd.R_drewN | apply Kd.R_drew)); exact HO236.out) hb); have n1_ := Aside0.mk (Kd.R_below (by (with_reducible repeat (first | apply Kd.R_alloc | apply Kd.R_drewN | apply Kd.R_drew)); exact HO239.out) hb); have n2_ := Aside0.mk (Kd.R_below (by (with_reducible repeat (first | apply Kd.R_alloc | apply Kd.R_drewN | apply Kd.R_drew)); exact HO251.out) hb); have n3_ := Aside0.mk (Kd.R_below (by (with_reducible repeat (first | apply Kd.R_alloc | apply Kd.R_drewN | apply Kd.R_drew)); exact HO254.out) hb); have n4_ := Aside0.mk (blk_below (g := gb216) (o := .cells #[.string a3_0, .string a3_1, .int .i64 a3_2, .int .i64 a3_3] 31 (0, 0)) (by (with_reducible repeat (first | refine blk_drewN ?_ _ | refine blk_drew ?_ | refine blk_alloc ?_ _)); exact BK216.out) hb); have n5_ := Aside0.mk (below_step (by repeat (first | (with_reducible first | exact HB.out | apply below_alloc | apply pw_below_drewN | apply below_drew1 | refine below_set ?_ GE216.out) | exact HB.out)) hb); clear HO236; clear HO239; clear HO251; clear HO254; clear BK216; clear HB; have HO236 := n0_; have HO239 := n1_; have HO251 := n2_; have HO254 := n3_; have BK216 := n4_; have HB := n5_; clear n0_ n1_ n2_ n3_ n4_ n5_; (try clear hb); (try clear hb2); (try clear hk); (try clear hi)))
                                          go_meet
                                          case rel => exact ⟨_, ((t257 == 2)), (by first | rfl | (simp; done) | (simp [*]; done)), H', ⟨by have := HJ7.out; have := HJ34.out; first | omega | exact Nat.le_refl _⟩, ⟨by (with_reducible repeat (first | refine blk_drewN ?_ _ | refine blk_drew ?_ | refine blk_alloc ?_ _)); exact BK216.out⟩, ⟨by repeat (first | (with_reducible first | exact HB.out | apply below_alloc | apply pw_below_drewN | apply below_drew1 | refine below_set ?_ GE216.out) | exact HB.out)⟩⟩
                                      · rw [if_neg c85] at H
                                        have c85b0 : (t256 == (wrap64 (t224 + 1))) = false := beq_eq_false_iff_ne.mpr c85
                                        have c85b1 : (t256 != (wrap64 (t224 + 1))) = true := bne_iff_ne.mpr c85
                                        have H' := Aside0.mk H
                                        clear H
                                        go_wp2_with (first | (go_at_call 12; (with_reducible refine (endorse_May.calls kj34 a0 a2 _ _ y237 false _ ?side1 ?side2 A77.out).mono ?_); (case side1 => repeat (first | exact (Kd.R_reads' HO239.out).2.2 | (with_reducible refine Kd.C_alloc ?_ _) | (with_reducible refine Kd.C_drewN ?_ _) | (with_reducible refine Kd.C_drew ?_))); (case side2 => exact (Kd.R_reads' HO239.out).2.1); rintro e w91 ⟨rfl, hb⟩; have n0_ := Aside0.mk (Kd.R_below (by (with_reducible repeat (first | apply Kd.R_alloc | apply Kd.R_drewN | apply Kd.R_drew)); exact HO236.out) hb); have n1_ := Aside0.mk (Kd.R_below (by (with_reducible repeat (first | apply Kd.R_alloc | apply Kd.R_drewN | apply Kd.R_drew)); exact HO239.out) hb); have n2_ := Aside0.mk (Kd.R_below (by (with_reducible repeat (first | apply Kd.R_alloc | apply Kd.R_drewN | apply Kd.R_drew)); exact HO251.out) hb); have n3_ := Aside0.mk (Kd.R_below (by (with_reducible repeat (first | apply Kd.R_alloc | apply Kd.R_drewN | apply Kd.R_drew)); exact HO254.out) hb); have n4_ := Aside0.mk (blk_below (g := gb216) (o := .cells #[.string a3_0, .string a3_1, .int .i64 a3_2, .int .i64 a3_3] 31 (0, 0)) (by (with_reducible repeat (first | refine blk_drewN ?_ _ | refine blk_drew ?_ | refine blk_alloc ?_ _)); exact BK216.out) hb); have n5_ := Aside0.mk (below_step (by repeat (first | (with_reducible first | exact HB.out | apply below_alloc | apply pw_below_drewN | apply below_drew1 | refine below_set ?_ GE216.out) | exact HB.out)) hb); clear HO236; clear HO239; clear HO251; clear HO254; clear BK216; clear HB; have HO236 := n0_; have HO239 := n1_; have HO251 := n2_; have HO254 := n3_; have BK216 := n4_; have HB := n5_; clear n0_ n1_ n2_ n3_ n4_ n5_; (try clear hb); (try clear hb2); (try clear hk); (try clear hi)) | (go_at_call 12; (with_reducible refine (endorse_May.calls kj34 a0 a4 _ _ y237 false _ ?side1 ?side2 A80.out).mono ?_); (case side1 => repeat (first | exact (Kd.R_reads' HO239.out).2.2 | (with_reducible refine Kd.C_alloc ?_ _) | (with_reducible refine Kd.C_drewN ?_ _) | (with_reducible refine Kd.C_drew ?_))); (case side2 => exact (Kd.R_reads' HO239.out).2.1); rintro e w92 ⟨rfl, hb⟩; have n0_ := Aside0.mk (Kd.R_below (by (with_reducible repeat (first | apply Kd.R_alloc | apply Kd.R_drewN | apply Kd.R_drew)); exact HO236.out) hb); have n1_ := Aside0.mk (Kd.R_below (by (with_reducible repeat (first | apply Kd.R_alloc | apply Kd.R_drewN | apply Kd.R_drew)); exact HO239.out) hb); have n2_ := Aside0.mk (Kd.R_below (by (with_reducible repeat (first | apply Kd.R_alloc | apply Kd.R_drewN | apply Kd.R_drew)); exact HO251.out) hb); have n3_ := Aside0.mk (Kd.R_below (by (with_reducible repeat (first | apply Kd.R_alloc | apply Kd.R_drewN | apply Kd.R_drew)); exact HO254.out) hb); have n4_ := Aside0.mk (blk_below (g := gb216) (o := .cells #[.string a3_0, .string a3_1, .int .i64 a3_2, .int .i64 a3_3] 31 (0, 0)) (by (with_reducible repeat (first | refine blk_drewN ?_ _ | refine blk_drew ?_ | refine blk_alloc ?_ _)); exact BK216.out) hb); have n5_ := Aside0.mk (below_step (by repeat (first | (with_reducible first | exact HB.out | apply below_alloc | apply pw_below_drewN | apply below_drew1 | refine below_set ?_ GE216.out) | exact HB.out)) hb); clear HO236; clear HO239; clear HO251; clear HO254; clear BK216; clear HB; have HO236 := n0_; have HO239 := n1_; have HO251 := n2_; have HO254 := n3_; have BK216 := n4_; have HB := n5_; clear n0_ n1_ n2_ n3_ n4_ n5_; (try clear hb); (try clear hb2); (try clear hk); (try clear hi)))
                                        go_meet
                                        case rel => exact ⟨_, (false), (by first | rfl | (simp; done) | (simp [*]; done)), H', ⟨by have := HJ7.out; have := HJ34.out; first | omega | exact Nat.le_refl _⟩, ⟨by (with_reducible repeat (first | refine blk_drewN ?_ _ | refine blk_drew ?_ | refine blk_alloc ?_ _)); exact BK216.out⟩, ⟨by repeat (first | (with_reducible first | exact HB.out | apply below_alloc | apply pw_below_drewN | apply below_drew1 | refine below_set ?_ GE216.out) | exact HB.out)⟩⟩
                                    · rw [if_neg c84] at H
                                      have c84b0 : (t255.toList == ([] : List UInt8)) = false := beq_eq_false_iff_ne.mpr c84
                                      have c84b1 : (t255.toList != ([] : List UInt8)) = true := bne_iff_ne.mpr c84
                                      have H' := Aside0.mk H
                                      clear H
                                      go_wp2_with (first | (go_at_call 12; (with_reducible refine (endorse_May.calls kj34 a0 a2 _ _ y237 false _ ?side1 ?side2 A77.out).mono ?_); (case side1 => repeat (first | exact (Kd.R_reads' HO239.out).2.2 | (with_reducible refine Kd.C_alloc ?_ _) | (with_reducible refine Kd.C_drewN ?_ _) | (with_reducible refine Kd.C_drew ?_))); (case side2 => exact (Kd.R_reads' HO239.out).2.1); rintro e w93 ⟨rfl, hb⟩; have n0_ := Aside0.mk (Kd.R_below (by (with_reducible repeat (first | apply Kd.R_alloc | apply Kd.R_drewN | apply Kd.R_drew)); exact HO236.out) hb); have n1_ := Aside0.mk (Kd.R_below (by (with_reducible repeat (first | apply Kd.R_alloc | apply Kd.R_drewN | apply Kd.R_drew)); exact HO239.out) hb); have n2_ := Aside0.mk (Kd.R_below (by (with_reducible repeat (first | apply Kd.R_alloc | apply Kd.R_drewN | apply Kd.R_drew)); exact HO251.out) hb); have n3_ := Aside0.mk (Kd.R_below (by (with_reducible repeat (first | apply Kd.R_alloc | apply Kd.R_drewN | apply Kd.R_drew)); exact HO254.out) hb); have n4_ := Aside0.mk (blk_below (g := gb216) (o := .cells #[.string a3_0, .string a3_1, .int .i64 a3_2, .int .i64 a3_3] 31 (0, 0)) (by (with_reducible repeat (first | refine blk_drewN ?_ _ | refine blk_drew ?_ | refine blk_alloc ?_ _)); exact BK216.out) hb); have n5_ := Aside0.mk (below_step (by repeat (first | (with_reducible first | exact HB.out | apply below_alloc | apply pw_below_drewN | apply below_drew1 | refine below_set ?_ GE216.out) | exact HB.out)) hb); clear HO236; clear HO239; clear HO251; clear HO254; clear BK216; clear HB; have HO236 := n0_; have HO239 := n1_; have HO251 := n2_; have HO254 := n3_; have BK216 := n4_; have HB := n5_; clear n0_ n1_ n2_ n3_ n4_ n5_; (try clear hb); (try clear hb2); (try clear hk); (try clear hi)) | (go_at_call 12; (with_reducible refine (endorse_May.calls kj34 a0 a4 _ _ y237 false _ ?side1 ?side2 A80.out).mono ?_); (case side1 => repeat (first | exact (Kd.R_reads' HO239.out).2.2 | (with_reducible refine Kd.C_alloc ?_ _) | (with_reducible refine Kd.C_drewN ?_ _) | (with_reducible refine Kd.C_drew ?_))); (case side2 => exact (Kd.R_reads' HO239.out).2.1); rintro e w94 ⟨rfl, hb⟩; have n0_ := Aside0.mk (Kd.R_below (by (with_reducible repeat (first | apply Kd.R_alloc | apply Kd.R_drewN | apply Kd.R_drew)); exact HO236.out) hb); have n1_ := Aside0.mk (Kd.R_below (by (with_reducible repeat (first | apply Kd.R_alloc | apply Kd.R_drewN | apply Kd.R_drew)); exact HO239.out) hb); have n2_ := Aside0.mk (Kd.R_below (by (with_reducible repeat (first | apply Kd.R_alloc | apply Kd.R_drewN | apply Kd.R_drew)); exact HO251.out) hb); have n3_ := Aside0.mk (Kd.R_below (by (with_reducible repeat (first | apply Kd.R_alloc | apply Kd.R_drewN | apply Kd.R_drew)); exact HO254.out) hb); have n4_ := Aside0.mk (blk_below (g := gb216) (o := .cells #[.string a3_0, .string a3_1, .int .i64 a3_2, .int .i64 a3_3] 31 (0, 0)) (by (with_reducible repeat (first | refine blk_drewN ?_ _ | refine blk_drew ?_ | refine blk_alloc ?_ _)); exact BK216.out) hb); have n5_ := Aside0.mk (below_step (by repeat (first | (with_reducible first | exact HB.out | apply below_alloc | apply pw_below_drewN | apply below_drew1 | refine below_set ?_ GE216.out) | exact HB.out)) hb); clear HO236; clear HO239; clear HO251; clear HO254; clear BK216; clear HB; have HO236 := n0_; have HO239 := n1_; have HO251 := n2_; have HO254 := n3_; have BK216 := n4_; have HB := n5_; clear n0_ n1_ n2_ n3_ n4_ n5_; (try clear hb); (try clear hb2); (try clear hk); (try clear hi)))
                                      go_meet
                                      case rel => exact ⟨_, (false), (by first | rfl | (simp; done) | (simp [*]; done)), H', ⟨by have := HJ7.out; have := HJ34.out; first | omega | exact Nat.le_refl _⟩, ⟨by (with_reducible repeat (first | refine blk_drewN ?_ _ | refine blk_drew ?_ | refine blk_alloc ?_ _)); exact BK216.out⟩, ⟨by repeat (first | (with_reducible first | exact HB.out | apply below_alloc | apply pw_below_drewN | apply below_drew1 | refine below_set ?_ GE216.out) | exact HB.out)⟩⟩
                              · rw [if_neg c76] at H
                                have c76b0 : (t242 == 0) = false := beq_eq_false_iff_ne.mpr c76
                                have c76b1 : (t242 != 0) = true := bne_iff_ne.mpr c76
                                have H' := Aside0.mk H
                                clear H
                                go_wp2
                                go_meet
                                case rel => exact ⟨_, (false), (by first | rfl | (simp; done) | (simp [*]; done)), H', ⟨by have := HJ7.out; have := HJ34.out; first | omega | exact Nat.le_refl _⟩, ⟨by (with_reducible repeat (first | refine blk_drewN ?_ _ | refine blk_drew ?_ | refine blk_alloc ?_ _)); exact BK216.out⟩, ⟨by repeat (first | (with_reducible first | exact HB.out | apply below_alloc | apply pw_below_drewN | apply below_drew1 | refine below_set ?_ GE216.out) | exact HB.out)⟩⟩
                            · rw [if_neg c75] at H
                              have c75b0 : (t241 == (wrap64 (t224 + 1))) = false := beq_eq_false_iff_ne.mpr c75
                              have c75b1 : (t241 != (wrap64 (t224 + 1))) = true := bne_iff_ne.mpr c75
                              have H' := Aside0.mk H
                              clear H
                              go_wp2
                              go_meet
                              case rel => exact ⟨_, (false), (by first | rfl | (simp; done) | (simp [*]; done)), H', ⟨by have := HJ7.out; have := HJ34.out; first | omega | exact Nat.le_refl _⟩, ⟨by (with_reducible repeat (first | refine blk_drewN ?_ _ | refine blk_drew ?_ | refine blk_alloc ?_ _)); exact BK216.out⟩, ⟨by repeat (first | (with_reducible first | exact HB.out | apply below_alloc | apply pw_below_drewN | apply below_drew1 | refine below_set ?_ GE216.out) | exact HB.out)⟩⟩
                          · rw [if_neg c74] at H
                            have c74b0 : (t240.toList == a2.toList) = false := beq_eq_false_iff_ne.mpr c74
                            have c74b1 : (t240.toList != a2.toList) = true := bne_iff_ne.mpr c74
                            (first | rw [c74b0] | (simp only [i64_w, i32_w]; rw [c74b0]) | skip)
                            have H' := Aside0.mk H
                            clear H
                            go_wp2
                            go_meet
                            case rel => exact ⟨_, (false), (by first | rfl | (simp; done) | (simp [*]; done)), H', ⟨by have := HJ7.out; have := HJ34.out; first | omega | exact Nat.le_refl _⟩, ⟨by (with_reducible repeat (first | refine blk_drewN ?_ _ | refine blk_drew ?_ | refine blk_alloc ?_ _)); exact BK216.out⟩, ⟨by repeat (first | (with_reducible first | exact HB.out | apply below_alloc | apply pw_below_drewN | apply below_drew1 | refine below_set ?_ GE216.out) | exact HB.out)⟩⟩
                        case rest =>
                          clear HC53
                          try clear c1
                          try clear p2
                          try clear c4
                          try clear c5
                          try clear p6
                          try clear c7
                          try clear c8
                          try clear c11
                          try clear c47
                          try clear c48
                          try clear c50
                          try clear c51
                          try clear p64
                          try clear c74
                          try clear c74b0
                          try clear c74b1
                          try clear c75
                          try clear c75b0
                          try clear c75b1
                          try clear c76
                          try clear c76b0
                          try clear c76b1
                          try clear c78
                          try clear c81
                          try clear c84
                          try clear c84b0
                          try clear c84b1
                          try clear c85
                          try clear c85b0
                          try clear c85b1
                          try clear c86
                          try clear c86b0
                          try clear c86b1
                          obtain ⟨kq, x10_52, rfl, HA, HJ52, BK216, HB⟩ := hcut
                          cases kq with
                          | zero => exact absurd HA.out (by simp [supercargolaw22_EndorseOnly.j2])
                          | succ kj52 =>
                            have H := HA.out
                            clear HA
                            simp only [supercargolaw22_EndorseOnly.j2] at H
                            obtain rfl := Option.some.inj H
                            go_wp2
                            go_ret
                            exact ⟨by first | rfl | (simp [errW_none, errW_some] <;> rfl) | (simp [*, errW_none, errW_some] <;> rfl), by repeat (first | (with_reducible first | exact HB.out | apply below_alloc | apply pw_below_drewN | apply below_drew1 | refine below_set ?_ GE216.out) | exact HB.out)⟩
                      · rw [if_neg c51] at H
                        exact absurd H (by simp)
                    · rw [if_neg c50] at H
                      exact absurd H (by simp)
                  · rw [if_neg c48] at H
                    exact absurd H (by simp)
                · rw [if_neg c47] at H
                  exact absurd H (by simp)
  · replace c7 := Bool.eq_false_iff.mpr c7
    subst c7
    have H1 : (some false) = some r := by rw [if_neg (show ¬ (false = true) by decide)] at H; exact H
    clear H
    have H := H1
    clear H1
    obtain rfl := Option.some.inj H
    go_enter Try.func5, Try.ntmps5
    go_wp2_with (first | ((with_reducible refine gate_dst (N := 8) rfl ?_); (try (refine gate_guard (by rfl) ?_; dsimp only)); refine box_event ?hg (N := 8) ?hd (cs := #[.string a3_0, .string a3_1, .int .i64 a3_2, .int .i64 a3_3]) (t := 31) ?hr ?_; (case hd => rfl); (case hg => rfl); (case hr => first | (go_simp; done) | (go_simp; rfl)); intro gb216 hg w95 hbox hb; have n0_ := Aside0.mk (below_step (by repeat (first | (with_reducible first | exact HB.out | apply below_alloc | apply pw_below_drewN | apply below_drew1) | exact HB.out)) hb); have n1_ := Aside0.mk (hbox); have n2_ := Aside0.mk ((by rw [hg]; exact (below_size (by repeat (first | (with_reducible first | exact HB.out | apply below_alloc | apply pw_below_drewN | apply below_drew1) | exact HB.out))) : w.heap.size ≤ gb216)); have n3_ := Aside0.mk ((by rw [hg]; exact (below_size (by repeat (first | (with_reducible first | exact HB.out | apply below_alloc | apply pw_below_drewN | apply below_drew1) | exact HB.out))) : w.heap.size ≤ gb216)); clear HB; have HB := n0_; have BK216 := n1_; have GW216 := n2_; have GE216 := n3_; clear n0_ n1_ n2_ n3_; clear hb hbox hg) | ((with_reducible refine gate_callee (f := 7) rfl ?_); refine goesL_ (some 21) rfl rfl Try.func7 (by kernel_rfl) rfl #[] rfl (by (try simp only [List.map_toArray, List.map_cons, List.map_nil]); first | done | rfl | (simp only [List.length_drop, List.length_take]; rfl)) ?_; (with_reducible refine (supercargolaw22_awake.calls k  false _ A6.out).mono ?_); rintro e w96 ⟨rfl, hb⟩; refine ⟨_, rfl, ?_⟩; have n0_ := Aside0.mk (blk_below (g := gb216) (o := .cells #[.string a3_0, .string a3_1, .int .i64 a3_2, .int .i64 a3_3] 31 (0, 0)) (by (with_reducible repeat (first | refine blk_drewN ?_ _ | refine blk_drew ?_ | refine blk_alloc ?_ _)); exact BK216.out) hb); have n1_ := Aside0.mk (below_step (by repeat (first | (with_reducible first | exact HB.out | apply below_alloc | apply pw_below_drewN | apply below_drew1 | refine below_set ?_ GE216.out) | exact HB.out)) hb); clear BK216; clear HB; have BK216 := n0_; have HB := n1_; clear n0_ n1_; (try clear hb); (try clear hb2); (try clear hk); (try clear hi)))
    go_ret
    exact ⟨by first | rfl | (simp [errW_none, errW_some] <;> rfl) | (simp [*, errW_none, errW_some] <;> rfl), by repeat (first | (with_reducible first | exact HB.out | apply below_alloc | apply pw_below_drewN | apply below_drew1 | refine below_set ?_ GE216.out) | exact HB.out)⟩

end Go.Proofs.Ytjmbglgchmhahaa.P
