-- Written by the session's own program xprint.py, which runs the kit's print over functions given by hand.
import Derived.Test.YtjmbglgchmhahaaDoorPx0
import Derived.Test.YtjmbglgchmhahaaDoorPx9
import Derived.Test.YtjmbglgchmhahaaDoorPx10
import Derived.Test.YtjmbglgchmhahaaDoorPx1
import Derived.Test.YtjmbglgchmhahaaDoorPx19
namespace Go.Proofs.YtjmbglgchmhahaaDoor.P
open Go.RowKit Go.Proofs.YtjmbglgchmhahaaDoorW.PrintWords Go.Proofs.YtjmbglgchmhahaaDoorW.PrintLast Go.Proofs.YtjmbglgchmhahaaDoorW.PrintMore
attribute [local go_sem] max2_int min2_int max_two min_two max_three min_three max_four min_four   -- for this text's walks alone
open List (setIfInBounds_toArray set_cons_zero set_cons_succ)
set_option linter.unusedVariables false
set_option linter.unusedSimpArgs false

/-! ### supercargoref22_One: function 22 -/
mutual
def supercargoref22_One.j0 : Nat → ByteArray → List ByteArray → ByteArray → ByteArray → Int → Int → Option (ByteArray × ByteArray × Int × Int × Bool)
 | 0, _, _, _, _, _, _ => none
 | k + 1, x0, x4, x217000, x217001, x217002, x217003 => if (x4.length : Int) = 4 then (if 1 < (x4.length : Int) then (if 2 < (x4.length : Int) then (if 3 < (x4.length : Int) then ((supercargoref22_Number.f k (rdOf ByteArray.empty x4 3)).bind fun t223 => (if 0 < (x4.length : Int) then (if (rdOf ByteArray.empty x4 0).toList = ([111, 110, 108, 121] : List UInt8) then (supercargoref22_One.j1 k x0 (rdOf ByteArray.empty x4 1) (rdOf ByteArray.empty x4 2) 2 t223) else (supercargoref22_One.j1 k x0 (rdOf ByteArray.empty x4 1) (rdOf ByteArray.empty x4 2) 0 t223)) else (none))) else (none)) else (none)) else (none)) else (supercargoref22_One.j1 k x0 x217000 x217001 x217002 x217003)
def supercargoref22_One.j1 : Nat → ByteArray → ByteArray → ByteArray → Int → Int → Option (ByteArray × ByteArray × Int × Int × Bool)
 | 0, _, _, _, _, _ => none
 | k + 1, x0, x217000, x217001, x217002, x217003 => (supercargoref22_Right.f k x217000 x217001 x217002 x217003).bind fun t225 => (if t225 = true then ((supercargoref22_Line.f k x217000 x217001 x217002 x217003).bind fun t226 => (if x0.size + 1 ≤ 9223372036854775807 then (some (x217000, x217001, x217002, x217003, (t226.toList == (x0 ++ (⟨#[10]⟩ : ByteArray)).toList))) else (none))) else (some (x217000, x217001, x217002, x217003, false)))
end
def supercargoref22_One.f (k : Nat) (a0 : ByteArray) : Option (ByteArray × ByteArray × Int × Int × Bool) := (supercargoref22_Parts.f k a0 32).bind fun t213 => (if (t213.length : Int) = 3 then (if 1 < (t213.length : Int) then (if 2 < (t213.length : Int) then ((supercargoref22_Number.f k (rdOf ByteArray.empty t213 2)).bind fun t219 => (supercargoref22_One.j0 k a0 t213 (rdOf ByteArray.empty t213 1) (⟨#[]⟩ : ByteArray) 1 t219)) else (none)) else (none)) else (supercargoref22_One.j0 k a0 t213 (⟨#[]⟩ : ByteArray) (⟨#[]⟩ : ByteArray) 0 0))
theorem supercargoref22_One.mono_l : ∀ k, (∀ y0 y1 y2 y3 y4 y5, LeO (supercargoref22_One.j0 k y0 y1 y2 y3 y4 y5) (supercargoref22_One.j0 (k + 1) y0 y1 y2 y3 y4 y5)) ∧ (∀ y0 y1 y2 y3 y4, LeO (supercargoref22_One.j1 k y0 y1 y2 y3 y4) (supercargoref22_One.j1 (k + 1) y0 y1 y2 y3 y4))
 | 0 => ⟨fun _ _ _ _ _ _ r h => by simp [supercargoref22_One.j0] at h, fun _ _ _ _ _ r h => by simp [supercargoref22_One.j1] at h⟩
 | k + 1 => by
  obtain ⟨ih0, ih1⟩ := supercargoref22_One.mono_l k
  refine ⟨?_, ?_⟩
  ·intro y0 y1 y2 y3 y4 y5
   unfold supercargoref22_One.j0
   repeat' first
   | (with_reducible exact ih0 _ _ _ _ _ _)
   | (with_reducible exact ih1 _ _ _ _ _)
   | (with_reducible exact supercargoref22_Line.mono _ _ _ _ _)
   | (with_reducible exact supercargoref22_Number.mono _ _)
   | (with_reducible exact supercargoref22_Parts.mono _ _ _)
   | (with_reducible exact supercargoref22_Right.mono _ _ _ _ _)
   | (with_reducible exact LeO.refl _)
   | (with_reducible exact LeO.none _)
   | (with_reducible refine LeO.ite ?_ ?_)
   | (with_reducible refine LeO.bind ?_ (fun _ => ?_))
   | exact ih0 _ _ _ _ _ _
   | exact ih1 _ _ _ _ _
   | exact supercargoref22_Line.mono _ _ _ _ _
   | exact supercargoref22_Number.mono _ _
   | exact supercargoref22_Parts.mono _ _ _
   | exact supercargoref22_Right.mono _ _ _ _ _
   | exact LeO.none _
   | refine LeO.ite ?_ ?_
   | refine LeO.bind ?_ (fun _ => ?_)
  ·intro y0 y1 y2 y3 y4
   unfold supercargoref22_One.j1
   repeat' first
   | (with_reducible exact ih0 _ _ _ _ _ _)
   | (with_reducible exact ih1 _ _ _ _ _)
   | (with_reducible exact supercargoref22_Line.mono _ _ _ _ _)
   | (with_reducible exact supercargoref22_Number.mono _ _)
   | (with_reducible exact supercargoref22_Parts.mono _ _ _)
   | (with_reducible exact supercargoref22_Right.mono _ _ _ _ _)
   | (with_reducible exact LeO.refl _)
   | (with_reducible exact LeO.none _)
   | (with_reducible refine LeO.ite ?_ ?_)
   | (with_reducible refine LeO.bind ?_ (fun _ => ?_))
   | exact ih0 _ _ _ _ _ _
   | exact ih1 _ _ _ _ _
   | exact supercargoref22_Line.mono _ _ _ _ _
   | exact supercargoref22_Number.mono _ _
   | exact supercargoref22_Parts.mono _ _ _
   | exact supercargoref22_Right.mono _ _ _ _ _
   | exact LeO.none _
   | refine LeO.ite ?_ ?_
   | refine LeO.bind ?_ (fun _ => ?_)
theorem supercargoref22_One.mono : ∀ a0 k, LeO (supercargoref22_One.f k a0) (supercargoref22_One.f (k + 1) a0) := by
 intro a0 k
 obtain ⟨ih0, ih1⟩ := supercargoref22_One.mono_l k
 unfold supercargoref22_One.f
 repeat' first
   | (with_reducible exact ih0 _ _ _ _ _ _)
   | (with_reducible exact ih1 _ _ _ _ _)
   | (with_reducible exact supercargoref22_Line.mono _ _ _ _ _)
   | (with_reducible exact supercargoref22_Number.mono _ _)
   | (with_reducible exact supercargoref22_Parts.mono _ _ _)
   | (with_reducible exact supercargoref22_Right.mono _ _ _ _ _)
   | (with_reducible exact LeO.refl _)
   | (with_reducible exact LeO.none _)
   | (with_reducible refine LeO.ite ?_ ?_)
   | (with_reducible refine LeO.bind ?_ (fun _ => ?_))
   | exact ih0 _ _ _ _ _ _
   | exact ih1 _ _ _ _ _
   | exact supercargoref22_Line.mono _ _ _ _ _
   | exact supercargoref22_Number.mono _ _
   | exact supercargoref22_Parts.mono _ _ _
   | exact supercargoref22_Right.mono _ _ _ _ _
   | exact LeO.none _
   | refine LeO.ite ?_ ?_
   | refine LeO.bind ?_ (fun _ => ?_)
def supercargoref22_One.T4 : Bool × List (List Nat × List Nat) := (true, [([], []), ([0], [0]), ([1], [1]), ([], []), ([3], [3]), ([4], [4]), ([5], [5]), ([2, 6], [2, 6]), ([7, 6, 0, 1, 2, 3, 4, 5, 6, 7], [7])])
def supercargoref22_One.B4 : List Nat := [0, 1, 3, 0, 8, 24, 56, 127, 255]
theorem supercargoref22_One.tab4 : rtab .any (opsOf Tryd.f22 4) = supercargoref22_One.T4 := by kernel_rfl
theorem supercargoref22_One.bits4 : waitsOk supercargoref22_One.T4.2 supercargoref22_One.B4 = true := by kernel_rfl
def supercargoref22_One.T6 : Bool × List (List Nat × List Nat) := (true, [([], []), ([0], [0]), ([1], [1]), ([], []), ([3], [3]), ([4], [4]), ([], []), ([6], [6]), ([7], [7]), ([8], [8]), ([2, 5, 9], [2, 5, 9]), ([10, 9, 0, 1, 2, 3, 4, 5, 6, 7, 8, 9, 10], [10])])
def supercargoref22_One.B6 : List Nat := [0, 1, 3, 0, 8, 24, 0, 64, 192, 448, 1023, 2047]
theorem supercargoref22_One.tab6 : rtab .any (opsOf Tryd.f22 6) = supercargoref22_One.T6 := by kernel_rfl
theorem supercargoref22_One.bits6 : waitsOk supercargoref22_One.T6.2 supercargoref22_One.B6 = true := by kernel_rfl
def supercargoref22_One.T9 : Bool × List (List Nat × List Nat) := (true, [([], []), ([], []), ([1], [1]), ([2, 2], [2]), ([3], [3]), ([4, 3, 3], [3, 4]), ([3], [3]), ([6, 3], [3, 6]), ([5, 7, 3], [3, 5, 7]), ([3, 8], [3, 8]), ([0, 5, 0], [0]), ([9, 10, 0, 1, 2, 3, 4, 5, 6, 7, 8, 9, 10], [9])])
def supercargoref22_One.B9 : List Nat := [0, 0, 2, 6, 14, 30, 14, 78, 254, 510, 63, 2047]
theorem supercargoref22_One.tab9 : rtab .any (opsOf Tryd.f22 9) = supercargoref22_One.T9 := by kernel_rfl
theorem supercargoref22_One.bits9 : waitsOk supercargoref22_One.T9.2 supercargoref22_One.B9 = true := by kernel_rfl
set_option maxHeartbeats 60000000 in
set_option maxRecDepth 100000 in
theorem supercargoref22_One.calls (k : Nat) (a0 : ByteArray) (r1 : ByteArray) (r2 : ByteArray) (r3 : Int) (r4 : Int) (r5 : Bool) (w : World) (h : supercargoref22_One.f k a0 = some (r1, r2, r3, r4, r5)) :
  Calls Tryd.prog 22 #[.string a0] w fun e w' => e = .returned (.tuple #[.agg #[.string r1, .string r2, .int .i64 r3, .int .i64 r4], .bool r5]) ∧ Below w.heap.size w w' := by
 have hu34 := Tryd.underlying34
 have HB := Aside0.mk (Below.refl w.heap.size w)
 have H : ((supercargoref22_Parts.f k a0 32).bind fun t213 => (if (t213.length : Int) = 3 then (if 1 < (t213.length : Int) then (if 2 < (t213.length : Int) then ((supercargoref22_Number.f k (rdOf ByteArray.empty t213 2)).bind fun t219 => (supercargoref22_One.j0 k a0 t213 (rdOf ByteArray.empty t213 1) (⟨#[]⟩ : ByteArray) 1 t219)) else (none)) else (none)) else (supercargoref22_One.j0 k a0 t213 (⟨#[]⟩ : ByteArray) (⟨#[]⟩ : ByteArray) 0 0))) = some (r1, r2, r3, r4, r5) := h
 clear h
 replace H := Option.bind_eq_some_iff.mp H
 obtain ⟨t213, A20, H⟩ := H
 replace H : (if (t213.length : Int) = 3 then (if 1 < (t213.length : Int) then (if 2 < (t213.length : Int) then ((supercargoref22_Number.f k (rdOf ByteArray.empty t213 2)).bind fun t219 => (supercargoref22_One.j0 k a0 t213 (rdOf ByteArray.empty t213 1) (⟨#[]⟩ : ByteArray) 1 t219)) else (none)) else (none)) else (supercargoref22_One.j0 k a0 t213 (⟨#[]⟩ : ByteArray) (⟨#[]⟩ : ByteArray) 0 0)) = some (r1, r2, r3, r4, r5) := H
 have A2 := Aside0.mk A20
 clear A20
 have HC3 := Aside0.mk H
 clear H
 go_enter Tryd.func22, Tryd.ntmps22
 go_upto_if 11 with (first | ((with_reducible refine gate_dst (N := 2) rfl ?_); refine box_event ?hg (N := 2) ?hd (cs := #[.string (⟨#[]⟩ : ByteArray), .string (⟨#[]⟩ : ByteArray), .int .i64 0, .int .i64 0]) (t := 34) ?hr ?_; (case hd => rfl); (case hg => rfl); (case hr => first | (go_simp; done) | (go_simp; rfl)); intro gb212 hg w4 hbox hb; have n0_ := Aside0.mk (below_step (by repeat (first | (with_reducible first | exact HB.out | apply below_alloc | apply pw_below_drewN | apply below_drew1) | exact HB.out)) hb); have n1_ := Aside0.mk (hbox); have n2_ := Aside0.mk ((by rw [hg]; exact (below_size (by repeat (first | (with_reducible first | exact HB.out | apply below_alloc | apply pw_below_drewN | apply below_drew1) | exact HB.out))) : w.heap.size ≤ gb212)); have n3_ := Aside0.mk ((by rw [hg]; exact (below_size (by repeat (first | (with_reducible first | exact HB.out | apply below_alloc | apply pw_below_drewN | apply below_drew1) | exact HB.out))) : w.heap.size ≤ gb212)); clear HB; have HB := n0_; have BK212 := n1_; have GW212 := n2_; have GE212 := n3_; clear n0_ n1_ n2_ n3_; clear hb hbox hg) | ((with_reducible refine gate_callee (f := 21) rfl ?_); refine goesL_ (some 7) rfl rfl Tryd.func21 (by kernel_rfl) rfl #[.string a0, .int .u8 32] rfl (by (try simp only [List.map_toArray, List.map_cons, List.map_nil]); first | done | rfl | (simp only [List.length_drop, List.length_take]; rfl)) ?_; (with_reducible refine (supercargoref22_Parts.calls k a0 32 t213 _ A2.out).mono ?_); rintro e w5 ⟨v214, rfl, ho0, hb⟩; refine ⟨_, rfl, ?_⟩; have n0_ := Aside0.mk (Kd.R_lower ho0 (below_size (by repeat (first | (with_reducible first | exact HB.out | apply below_alloc | apply pw_below_drewN | apply below_drew1 | refine below_set ?_ GE212.out) | exact HB.out)))); have n1_ := Aside0.mk (blk_below (g := gb212) (o := .cells #[.string (⟨#[]⟩ : ByteArray), .string (⟨#[]⟩ : ByteArray), .int .i64 0, .int .i64 0] 34 (0, 0)) (by (with_reducible repeat (first | refine blk_drewN ?_ _ | refine blk_drew ?_ | refine blk_alloc ?_ _)); exact BK212.out) hb); have n2_ := Aside0.mk (below_step (by repeat (first | (with_reducible first | exact HB.out | apply below_alloc | apply pw_below_drewN | apply below_drew1 | refine below_set ?_ GE212.out) | exact HB.out)) hb); clear BK212; clear HB; have HO215 := n0_; have BK212 := n1_; have HB := n2_; clear n0_ n1_ n2_; (try clear hb); (try clear hb2); (try clear hk); (try clear hi); (try clear ho0)) | ((with_reducible refine gate_dst (N := 5) rfl ?_); refine box_event ?hg (N := 5) ?hd (cs := #[.string (⟨#[]⟩ : ByteArray), .string (⟨#[]⟩ : ByteArray), .int .i64 0, .int .i64 0]) (t := 34) ?hr ?_; (case hd => rfl); (case hg => rfl); (case hr => first | (go_simp; done) | (go_simp; rfl)); intro gb216 hg w6 hbox hb; have n0_ := Aside0.mk (Kd.R_below (by (with_reducible repeat (first | apply Kd.R_alloc | apply Kd.R_drewN | apply Kd.R_drew)); exact HO215.out) hb); have n1_ := Aside0.mk (blk_below (g := gb212) (o := .cells #[.string (⟨#[]⟩ : ByteArray), .string (⟨#[]⟩ : ByteArray), .int .i64 0, .int .i64 0] 34 (0, 0)) (by (with_reducible repeat (first | refine blk_drewN ?_ _ | refine blk_drew ?_ | refine blk_alloc ?_ _)); exact BK212.out) hb); have n2_ := Aside0.mk (below_step (by repeat (first | (with_reducible first | exact HB.out | apply below_alloc | apply pw_below_drewN | apply below_drew1 | refine below_set ?_ GE212.out) | exact HB.out)) hb); have n3_ := Aside0.mk (hbox); have n4_ := Aside0.mk ((by rw [hg]; exact (below_size (by repeat (first | (with_reducible first | exact HB.out | apply below_alloc | apply pw_below_drewN | apply below_drew1 | refine below_set ?_ GE212.out) | exact HB.out))) : w.heap.size ≤ gb216)); have n5_ := Aside0.mk ((by rw [hg]; exact (below_size (by repeat (first | (with_reducible first | exact HB.out | apply below_alloc | apply pw_below_drewN | apply below_drew1 | refine below_set ?_ GE212.out) | exact HB.out))) : w.heap.size ≤ gb216)); have n6_ := Aside0.mk ((by rw [hg]; exact Nat.ne_of_lt (blk_lt (g := gb212) (o := .cells #[.string (⟨#[]⟩ : ByteArray), .string (⟨#[]⟩ : ByteArray), .int .i64 0, .int .i64 0] 34 (0, 0)) (by (with_reducible repeat (first | refine blk_drewN ?_ _ | refine blk_drew ?_ | refine blk_alloc ?_ _)); exact BK212.out)) : gb212 ≠ gb216)); have n7_ := Aside0.mk ((by rw [hg]; exact Nat.ne_of_gt (blk_lt (g := gb212) (o := .cells #[.string (⟨#[]⟩ : ByteArray), .string (⟨#[]⟩ : ByteArray), .int .i64 0, .int .i64 0] 34 (0, 0)) (by (with_reducible repeat (first | refine blk_drewN ?_ _ | refine blk_drew ?_ | refine blk_alloc ?_ _)); exact BK212.out)) : gb216 ≠ gb212)); clear HO215; clear BK212; clear HB; have HO215 := n0_; have BK212 := n1_; have HB := n2_; have BK216 := n3_; have GW216 := n4_; have GE216 := n5_; have NB212_216 := n6_; have NB216_212 := n7_; clear n0_ n1_ n2_ n3_ n4_ n5_ n6_ n7_; clear hb hbox hg; have hnb7 := NB216_212.out; have hnc7 := NB212_216.out; have hcz8_0 : w6.cell? ⟨gb216, 0, none⟩ = some (.string (⟨#[]⟩ : ByteArray)) := (blk_cell BK216.out 0).trans rfl; have hcz8_1 : w6.cell? ⟨gb216, 1, none⟩ = some (.string (⟨#[]⟩ : ByteArray)) := (blk_cell BK216.out 1).trans rfl; have hcz8_2 : w6.cell? ⟨gb216, 2, none⟩ = some (.int .i64 0) := (blk_cell BK216.out 2).trans rfl; have hcz8_3 : w6.cell? ⟨gb216, 3, none⟩ = some (.int .i64 0) := (blk_cell BK216.out 3).trans rfl; have hfz8_0 := blk_frozen BK216.out 0; have hfz8_1 := blk_frozen BK216.out 1; have hfz8_2 := blk_frozen BK216.out 2; have hfz8_3 := blk_frozen BK216.out 3; obtain ⟨Ao9, co9, eo9⟩ := Kd.R_slice HO215.out; subst eo9))
 (try simp only [Act.put, setIfInBounds_toArray, set_cons_zero, set_cons_succ])
 go_cut [] (fun wc => ∃ (kq : Nat) (x217000_2 : ByteArray) (x217001_2 : ByteArray) (x217002_2 : Int) (x217003_2 : Int), Aside0 (supercargoref22_One.j0 kq a0 t213 x217000_2 x217001_2 x217002_2 x217003_2 = some (r1, r2, r3, r4, r5)) ∧ Aside0 (kq ≤ k) ∧ Aside0 (Kd.R Kd.string 9 wc w.heap.size (fun _ => True) (.slice Ao9 t213.length co9) t213) ∧ Aside0 (wc.heap[gb212]? = some (.cells #[.string (⟨#[]⟩ : ByteArray), .string (⟨#[]⟩ : ByteArray), .int .i64 0, .int .i64 0] 34 (0, 0))) ∧ Aside0 (wc.heap[gb216]? = some (.cells #[.string x217000_2, .string x217001_2, .int .i64 x217002_2, .int .i64 x217003_2] 34 (0, 0))) ∧ Aside0 (Below w.heap.size w wc))
 case first =>
  have H := HC3.out
  clear HC3
  by_cases c10 : (t213.length : Int) = 3
  ·rw [if_pos c10] at H
   have c10b0 : ((t213.length : Int) == 3) = true := beq_iff_eq.mpr c10
   have c10b1 : ((t213.length : Int) != 3) = false := bne_eq_false_iff_eq.mpr c10
   clear c10
   (first | rw [c10b0] | (simp only [i64_w, i32_w]; rw [c10b0]) | skip)
   by_cases c11 : 1 < (t213.length : Int)
   ·rw [if_pos c11] at H
    have c11b0 : decide (1 < (t213.length : Int)) = true := decide_eq_true c11
    have c11b1 : decide (1 < t213.length) = true := decide_eq_true (by omega)
    clear c11
    by_cases c12 : 2 < (t213.length : Int)
    ·rw [if_pos c12] at H
     have c12b0 : decide (2 < (t213.length : Int)) = true := decide_eq_true c12
     have c12b1 : decide (2 < t213.length) = true := decide_eq_true (by omega)
     clear c12
     replace H := Option.bind_eq_some_iff.mp H
     obtain ⟨t219, A130, H⟩ := H
     replace H : (supercargoref22_One.j0 k a0 t213 (rdOf ByteArray.empty t213 1) (⟨#[]⟩ : ByteArray) 1 t219) = some (r1, r2, r3, r4, r5) := H
     have A13 := Aside0.mk A130
     clear A130
     have H' := Aside0.mk H
     clear H
     try go_wp2
     have n0_ : Aside0 (Kd.R Kd.string 9 ((((w6.setCell ⟨gb216, 0, none⟩ (.string (⟨#[]⟩ : ByteArray))).setCell ⟨gb216, 1, none⟩ (.string (⟨#[]⟩ : ByteArray))).setCell ⟨gb216, 2, none⟩ (.int .i64 0)).setCell ⟨gb216, 3, none⟩ (.int .i64 0)) w.heap.size (fun _ => True) (.slice Ao9 t213.length co9) t213) := ⟨by (with_reducible repeat (first | apply Kd.R_alloc | apply Kd.R_drewN | apply Kd.R_drew)); exact Kd.R_mono (Kd.R_far (p := ⟨gb216, 3, none⟩) (Kd.R_far (p := ⟨gb216, 2, none⟩) (Kd.R_far (p := ⟨gb216, 1, none⟩) (Kd.R_far (p := ⟨gb216, 0, none⟩) (Kd.R_types HO215.out BK216.out (by decide)) (fun _ hk => hk.2) (.string (⟨#[]⟩ : ByteArray))) (fun _ hk => hk.2) (.string (⟨#[]⟩ : ByteArray))) (fun _ hk => hk.2) (.int .i64 0)) (fun _ hk => hk.2) (.int .i64 0)) (fun _ hk => trivial)⟩
     have n1_ : Aside0 (((((w6.setCell ⟨gb216, 0, none⟩ (.string (⟨#[]⟩ : ByteArray))).setCell ⟨gb216, 1, none⟩ (.string (⟨#[]⟩ : ByteArray))).setCell ⟨gb216, 2, none⟩ (.int .i64 0)).setCell ⟨gb216, 3, none⟩ (.int .i64 0)).heap[gb212]? = some (.cells #[.string (⟨#[]⟩ : ByteArray), .string (⟨#[]⟩ : ByteArray), .int .i64 0, .int .i64 0] 34 (0, 0))) := ⟨by (with_reducible repeat (first | refine blk_drewN ?_ _ | refine blk_drew ?_ | refine blk_alloc ?_ _)); refine blk_far ?_ NB212_216.out _; (with_reducible repeat (first | refine blk_drewN ?_ _ | refine blk_drew ?_ | refine blk_alloc ?_ _)); refine blk_far ?_ NB212_216.out _; (with_reducible repeat (first | refine blk_drewN ?_ _ | refine blk_drew ?_ | refine blk_alloc ?_ _)); refine blk_far ?_ NB212_216.out _; (with_reducible repeat (first | refine blk_drewN ?_ _ | refine blk_drew ?_ | refine blk_alloc ?_ _)); refine blk_far ?_ NB212_216.out _; (with_reducible repeat (first | refine blk_drewN ?_ _ | refine blk_drew ?_ | refine blk_alloc ?_ _)); exact BK212.out⟩
     have n2_ : Aside0 (((((w6.setCell ⟨gb216, 0, none⟩ (.string (⟨#[]⟩ : ByteArray))).setCell ⟨gb216, 1, none⟩ (.string (⟨#[]⟩ : ByteArray))).setCell ⟨gb216, 2, none⟩ (.int .i64 0)).setCell ⟨gb216, 3, none⟩ (.int .i64 0)).heap[gb216]? = some (.cells #[.string (⟨#[]⟩ : ByteArray), .string (⟨#[]⟩ : ByteArray), .int .i64 0, .int .i64 0] 34 (0, 0))) := ⟨by (with_reducible repeat (first | refine blk_drewN ?_ _ | refine blk_drew ?_ | refine blk_alloc ?_ _)); refine blk_put (cs := #[.string (⟨#[]⟩ : ByteArray), .string (⟨#[]⟩ : ByteArray), .int .i64 0, .int .i64 0]) ?_ 3 _ rfl; (with_reducible repeat (first | refine blk_drewN ?_ _ | refine blk_drew ?_ | refine blk_alloc ?_ _)); refine blk_put (cs := #[.string (⟨#[]⟩ : ByteArray), .string (⟨#[]⟩ : ByteArray), .int .i64 0, .int .i64 0]) ?_ 2 _ rfl; (with_reducible repeat (first | refine blk_drewN ?_ _ | refine blk_drew ?_ | refine blk_alloc ?_ _)); refine blk_put (cs := #[.string (⟨#[]⟩ : ByteArray), .string (⟨#[]⟩ : ByteArray), .int .i64 0, .int .i64 0]) ?_ 1 _ rfl; (with_reducible repeat (first | refine blk_drewN ?_ _ | refine blk_drew ?_ | refine blk_alloc ?_ _)); refine blk_put (cs := #[.string (⟨#[]⟩ : ByteArray), .string (⟨#[]⟩ : ByteArray), .int .i64 0, .int .i64 0]) ?_ 0 _ rfl; (with_reducible repeat (first | refine blk_drewN ?_ _ | refine blk_drew ?_ | refine blk_alloc ?_ _)); exact BK216.out⟩
     have n3_ : Aside0 (Below w.heap.size w ((((w6.setCell ⟨gb216, 0, none⟩ (.string (⟨#[]⟩ : ByteArray))).setCell ⟨gb216, 1, none⟩ (.string (⟨#[]⟩ : ByteArray))).setCell ⟨gb216, 2, none⟩ (.int .i64 0)).setCell ⟨gb216, 3, none⟩ (.int .i64 0))) := ⟨by repeat (first | (with_reducible first | exact HB.out | apply below_alloc | apply pw_below_drewN | apply below_drew1 | refine below_set ?_ GE212.out | refine below_set ?_ GE216.out) | exact HB.out)⟩
     (try clear HO215)
     (try clear BK212)
     (try clear BK216)
     (try clear HB)
     generalize ((((w6.setCell ⟨gb216, 0, none⟩ (.string (⟨#[]⟩ : ByteArray))).setCell ⟨gb216, 1, none⟩ (.string (⟨#[]⟩ : ByteArray))).setCell ⟨gb216, 2, none⟩ (.int .i64 0)).setCell ⟨gb216, 3, none⟩ (.int .i64 0)) = w14 at n0_ n1_ n2_ n3_ ⊢
     have HO215 := n0_
     have BK212 := n1_
     have BK216 := n2_
     have HB := n3_
     clear n0_ n1_ n2_ n3_
     have n0_ := Aside0.mk (Kd.R_drew HO215.out)
     have n1_ := Aside0.mk (blk_drew BK212.out)
     have n2_ := Aside0.mk (blk_drew BK216.out)
     have n3_ := Aside0.mk (below_drew1 HB.out)
     clear HO215
     clear BK212
     clear BK216
     clear HB
     have HO215 := n0_
     have BK212 := n1_
     have BK216 := n2_
     have HB := n3_
     clear n0_ n1_ n2_ n3_
     have p217 : 0 ≤ (1 : Int) := (by omega)
     have q217 : 1 < (t213.length : Int) := of_decide_eq_true (by first | (with_reducible assumption) | assumption)
     obtain ⟨ad217, e217, hx217_0⟩ := Kd.at_string (Kd.R_reads' HO215.out).2.2 1 p217 q217
     cases e217
     (try simp only [show (1 : Int).toNat = 1 from rfl, Nat.reduceMul, Nat.reduceEqDiff, Go.Addr.add, ↓reduceIte] at hx217_0)
     have qi217 : (1 < t213.length) = True := eq_true (by omega)
     (try rw [show ((1 : Int)).toNat = 1 from rfl] at hx217_0)
     replace p217 := eq_true p217
     replace q217 := eq_true q217
     have p218 : 0 ≤ (2 : Int) := (by omega)
     have q218 : 2 < (t213.length : Int) := of_decide_eq_true (by first | (with_reducible assumption) | assumption)
     obtain ⟨ad218, e218, hx218_0⟩ := Kd.at_string (Kd.R_reads' HO215.out).2.2 2 p218 q218
     obtain rfl : ad217 = ad218 := (by injection e218)
     (try simp only [show (2 : Int).toNat = 2 from rfl, Nat.reduceMul, Nat.reduceEqDiff, Go.Addr.add, ↓reduceIte] at hx218_0)
     have qi218 : (2 < t213.length) = True := eq_true (by omega)
     (try rw [show ((2 : Int)).toNat = 2 from rfl] at hx218_0)
     replace p218 := eq_true p218
     replace q218 := eq_true q218
     refine start_ (n := 9) (S := fun w' => w'.cell? ⟨ad217.block, ad217.off + 1, none⟩ = some (.string (rdOf ByteArray.empty t213 1)) ∧ w'.cell? ⟨ad217.block, ad217.off + 2, none⟩ = some (.string (rdOf ByteArray.empty t213 2))) (ds := []) #[false, false, false, false, false, false, false, false, false] (by kernel_rfl) rfl rfl ⟨hx217_0, hx218_0⟩ (fun hHeld => ?_); refine with_tabW supercargoref22_One.tab4 supercargoref22_One.bits4 (fun HT_ HW_ => ?_)
     generalize w14.drew = w15 at HO215 BK212 BK216 HB hx217_0 hx218_0 hHeld ⊢
     refine pure_ (i := 0) (N := some 12) (v := ?_) (a' := ?_) #[true, false, false, false, false, false, false, false, false] rfl rfl (any_of HT_.out (by kernel_rfl)) (fun _ _ _ h => h) (Or.inl ⟨by rfl, ?_⟩) ?_ ?_
     rotate_left
     ·intro w'
      go_simp
      with_reducible rfl
     rotate_left
     ·simp only [Act.put, setIfInBounds_toArray, set_cons_zero, set_cons_succ, i64_w]
      rfl
     refine pure_ (i := 1) (N := some 13) (v := ?_) (a' := ?_) #[true, true, false, false, false, false, false, false, false] rfl rfl (any_of HT_.out (by kernel_rfl)) (fun _ _ _ h => h) (Or.inl ⟨by rfl, ?_⟩) ?_ ?_
     rotate_left
     ·intro w'
      go_simp
      with_reducible rfl
     rotate_left
     ·simp only [Act.put, setIfInBounds_toArray, set_cons_zero, set_cons_succ, i64_w]
      rfl
     refine pure_ (i := 3) (N := some 15) (v := ?_) (a' := ?_) #[true, true, false, true, false, false, false, false, false] rfl rfl (any_of HT_.out (by kernel_rfl)) (fun _ _ _ h => h) (Or.inl ⟨by rfl, ?_⟩) ?_ ?_
     rotate_left
     ·intro w'
      go_simp
      with_reducible rfl
     rotate_left
     ·simp only [Act.put, setIfInBounds_toArray, set_cons_zero, set_cons_succ, i64_w]
      rfl
     refine pure_ (i := 4) (N := some 16) (v := ?_) (a' := ?_) #[true, true, false, true, true, false, false, false, false] rfl rfl (any_of HT_.out (by kernel_rfl)) (fun _ _ _ h => h) (Or.inl ⟨by rfl, ?_⟩) ?_ ?_
     rotate_left
     ·intro w'
      go_simp
      with_reducible rfl
     rotate_left
     ·simp only [Act.put, setIfInBounds_toArray, set_cons_zero, set_cons_succ, i64_w]
      rfl
     refine take_ (i := 2) (N := some 14) (v := ?_) (a' := ?_) #[true, true, true, true, true, false, false, false, false] rfl rfl (take_ofW HT_.out HW_.out (by kernel_rfl)) (fun _ _ _ h => h) (Or.inl ⟨by rfl, ?_⟩) hHeld ?_ ?_
     rotate_left
     ·rintro w' ⟨s0, s1⟩
      go_simp
      with_reducible rfl
     rotate_left
     ·simp only [Act.put, setIfInBounds_toArray, set_cons_zero, set_cons_succ, i64_w]
      rfl
     refine take_ (i := 5) (N := some 17) (v := ?_) (a' := ?_) #[true, true, true, true, true, true, false, false, false] rfl rfl (take_ofW HT_.out HW_.out (by kernel_rfl)) (fun _ _ _ h => h) (Or.inl ⟨by rfl, ?_⟩) hHeld ?_ ?_
     rotate_left
     ·rintro w' ⟨s0, s1⟩
      go_simp
      with_reducible rfl
     rotate_left
     ·simp only [Act.put, setIfInBounds_toArray, set_cons_zero, set_cons_succ, i64_w]
      rfl
     refine one_ (i := 6) (N := some 18) #[true, true, true, true, true, true, true, false, false] rfl rfl (one_of HT_.out (by kernel_rfl)) (by decide) (fun K hK => ?_)
     refine goes_ Tryd.func33 (by kernel_rfl) rfl #[.string (rdOf ByteArray.empty t213 2)] (by rfl) rfl rfl (by (try simp only [List.map_toArray, List.map_cons, List.map_nil]); first | done | rfl | (simp only [List.length_drop, List.length_take]; rfl)) ?_
     with_reducible refine (supercargoref22_Number.calls k (rdOf ByteArray.empty t213 2) t219 _ A13.out).mono ?_
     rintro e w' ⟨rfl, ⟨nd, rfl⟩⟩
     refine ⟨_, rfl, ?_⟩
     refine hK.out _ _ ⟨hHeld.1, hHeld.2⟩ (fun hHeld => ?_)
     clear hK K
     refine norm_ (a' := ?_) ?_ ?_
     rotate_left
     ·show Act.put _ (some 18) _ = _
      simp only [Act.put, setIfInBounds_toArray, set_cons_zero, set_cons_succ, i64_w]
      rfl
     refine pure_ (i := 7) (N := some 19) (v := ?_) (a' := ?_) #[true, true, true, true, true, true, true, true, false] rfl rfl (any_of HT_.out (by kernel_rfl)) (fun _ _ _ h => h) (Or.inl ⟨by rfl, ?_⟩) ?_ ?_
     rotate_left
     ·intro w'
      go_simp
      with_reducible rfl
     rotate_left
     ·simp only [Act.put, setIfInBounds_toArray, set_cons_zero, set_cons_succ, i64_w]
      rfl
     refine one_ (i := 8) (N := none) #[true, true, true, true, true, true, true, true, true] rfl rfl (one_of HT_.out (by kernel_rfl)) (by decide) (fun K hK => ?_)
     have hs16 : w15.cell? ⟨gb216, 0, none⟩ = some (.string (⟨#[]⟩ : ByteArray)) := (blk_cell BK216.out 0).trans rfl
     have hfs16 := blk_frozen BK216.out 0
     have hns16_0 := NB212_216.out
     have hms16_0 := NB216_212.out
     have hs17 : w15.cell? ⟨gb216, 1, none⟩ = some (.string (⟨#[]⟩ : ByteArray)) := (blk_cell BK216.out 1).trans rfl
     have hfs17 := blk_frozen BK216.out 1
     have hns17_0 := NB212_216.out
     have hms17_0 := NB216_212.out
     have hs18 : w15.cell? ⟨gb216, 2, none⟩ = some (.int .i64 0) := (blk_cell BK216.out 2).trans rfl
     have hfs18 := blk_frozen BK216.out 2
     have hns18_0 := NB212_216.out
     have hms18_0 := NB216_212.out
     have hs19 : w15.cell? ⟨gb216, 3, none⟩ = some (.int .i64 0) := (blk_cell BK216.out 3).trans rfl
     have hfs19 := blk_frozen BK216.out 3
     have hns19_0 := NB212_216.out
     have hms19_0 := NB216_212.out
     refine skip_ (w1 := ?_) (by rfl) rfl ?_ ?_
     rotate_left
     ·go_simp
      rfl
     refine hK.out _ _ ⟨((cell_far (p := ⟨gb216, _, none⟩) (by first | exact Kd.own_blk (Kd.R_ne HO215.out BK216.out (by decide)) | (rw [add_block]; exact Kd.own_blk (Kd.R_ne HO215.out BK216.out (by decide))) | (show (Addr.add _ _).block ≠ _; rw [add_block]; exact Kd.own_blk (Kd.R_ne HO215.out BK216.out (by decide))) | (dsimp only; exact Kd.own_blk (Kd.R_ne HO215.out BK216.out (by decide)))) _).trans (((cell_far (p := ⟨gb216, _, none⟩) (by first | exact Kd.own_blk (Kd.R_ne HO215.out BK216.out (by decide)) | (rw [add_block]; exact Kd.own_blk (Kd.R_ne HO215.out BK216.out (by decide))) | (show (Addr.add _ _).block ≠ _; rw [add_block]; exact Kd.own_blk (Kd.R_ne HO215.out BK216.out (by decide))) | (dsimp only; exact Kd.own_blk (Kd.R_ne HO215.out BK216.out (by decide)))) _).trans (((cell_far (p := ⟨gb216, _, none⟩) (by first | exact Kd.own_blk (Kd.R_ne HO215.out BK216.out (by decide)) | (rw [add_block]; exact Kd.own_blk (Kd.R_ne HO215.out BK216.out (by decide))) | (show (Addr.add _ _).block ≠ _; rw [add_block]; exact Kd.own_blk (Kd.R_ne HO215.out BK216.out (by decide))) | (dsimp only; exact Kd.own_blk (Kd.R_ne HO215.out BK216.out (by decide)))) _).trans (((cell_far (p := ⟨gb216, _, none⟩) (by first | exact Kd.own_blk (Kd.R_ne HO215.out BK216.out (by decide)) | (rw [add_block]; exact Kd.own_blk (Kd.R_ne HO215.out BK216.out (by decide))) | (show (Addr.add _ _).block ≠ _; rw [add_block]; exact Kd.own_blk (Kd.R_ne HO215.out BK216.out (by decide))) | (dsimp only; exact Kd.own_blk (Kd.R_ne HO215.out BK216.out (by decide)))) _).trans (hHeld.1)))))))), ((cell_far (p := ⟨gb216, _, none⟩) (by first | exact Kd.own_blk (Kd.R_ne HO215.out BK216.out (by decide)) | (rw [add_block]; exact Kd.own_blk (Kd.R_ne HO215.out BK216.out (by decide))) | (show (Addr.add _ _).block ≠ _; rw [add_block]; exact Kd.own_blk (Kd.R_ne HO215.out BK216.out (by decide))) | (dsimp only; exact Kd.own_blk (Kd.R_ne HO215.out BK216.out (by decide)))) _).trans (((cell_far (p := ⟨gb216, _, none⟩) (by first | exact Kd.own_blk (Kd.R_ne HO215.out BK216.out (by decide)) | (rw [add_block]; exact Kd.own_blk (Kd.R_ne HO215.out BK216.out (by decide))) | (show (Addr.add _ _).block ≠ _; rw [add_block]; exact Kd.own_blk (Kd.R_ne HO215.out BK216.out (by decide))) | (dsimp only; exact Kd.own_blk (Kd.R_ne HO215.out BK216.out (by decide)))) _).trans (((cell_far (p := ⟨gb216, _, none⟩) (by first | exact Kd.own_blk (Kd.R_ne HO215.out BK216.out (by decide)) | (rw [add_block]; exact Kd.own_blk (Kd.R_ne HO215.out BK216.out (by decide))) | (show (Addr.add _ _).block ≠ _; rw [add_block]; exact Kd.own_blk (Kd.R_ne HO215.out BK216.out (by decide))) | (dsimp only; exact Kd.own_blk (Kd.R_ne HO215.out BK216.out (by decide)))) _).trans (((cell_far (p := ⟨gb216, _, none⟩) (by first | exact Kd.own_blk (Kd.R_ne HO215.out BK216.out (by decide)) | (rw [add_block]; exact Kd.own_blk (Kd.R_ne HO215.out BK216.out (by decide))) | (show (Addr.add _ _).block ≠ _; rw [add_block]; exact Kd.own_blk (Kd.R_ne HO215.out BK216.out (by decide))) | (dsimp only; exact Kd.own_blk (Kd.R_ne HO215.out BK216.out (by decide)))) _).trans (hHeld.2))))))))⟩ (fun hHeld => ?_)
     clear hK K
     refine done_ (done_of HT_.out (by kernel_rfl)) ?_
     try go_wp2
     go_meet
     case rel => exact ⟨_, (rdOf ByteArray.empty t213 1), ((⟨#[]⟩ : ByteArray)), (1), (t219), H', ⟨by first | omega | exact Nat.le_refl _⟩, ⟨by (with_reducible repeat (first | apply Kd.R_alloc | apply Kd.R_drewN | apply Kd.R_drew)); exact Kd.R_mono (Kd.R_far (p := ⟨gb216, 3, none⟩) (Kd.R_far (p := ⟨gb216, 2, none⟩) (Kd.R_far (p := ⟨gb216, 1, none⟩) (Kd.R_far (p := ⟨gb216, 0, none⟩) (Kd.R_types HO215.out BK216.out (by decide)) (fun _ hk => hk.2) (.string (rdOf ByteArray.empty t213 1))) (fun _ hk => hk.2) (.string (⟨#[]⟩ : ByteArray))) (fun _ hk => hk.2) (.int .i64 1)) (fun _ hk => hk.2) (.int .i64 t219)) (fun _ hk => trivial)⟩, ⟨by (with_reducible repeat (first | refine blk_drewN ?_ _ | refine blk_drew ?_ | refine blk_alloc ?_ _)); refine blk_far ?_ NB212_216.out _; (with_reducible repeat (first | refine blk_drewN ?_ _ | refine blk_drew ?_ | refine blk_alloc ?_ _)); refine blk_far ?_ NB212_216.out _; (with_reducible repeat (first | refine blk_drewN ?_ _ | refine blk_drew ?_ | refine blk_alloc ?_ _)); refine blk_far ?_ NB212_216.out _; (with_reducible repeat (first | refine blk_drewN ?_ _ | refine blk_drew ?_ | refine blk_alloc ?_ _)); refine blk_far ?_ NB212_216.out _; (with_reducible repeat (first | refine blk_drewN ?_ _ | refine blk_drew ?_ | refine blk_alloc ?_ _)); exact BK212.out⟩, ⟨by (with_reducible repeat (first | refine blk_drewN ?_ _ | refine blk_drew ?_ | refine blk_alloc ?_ _)); refine blk_put (cs := #[.string (rdOf ByteArray.empty t213 1), .string (⟨#[]⟩ : ByteArray), .int .i64 1, .int .i64 0]) ?_ 3 _ rfl; (with_reducible repeat (first | refine blk_drewN ?_ _ | refine blk_drew ?_ | refine blk_alloc ?_ _)); refine blk_put (cs := #[.string (rdOf ByteArray.empty t213 1), .string (⟨#[]⟩ : ByteArray), .int .i64 0, .int .i64 0]) ?_ 2 _ rfl; (with_reducible repeat (first | refine blk_drewN ?_ _ | refine blk_drew ?_ | refine blk_alloc ?_ _)); refine blk_put (cs := #[.string (rdOf ByteArray.empty t213 1), .string (⟨#[]⟩ : ByteArray), .int .i64 0, .int .i64 0]) ?_ 1 _ rfl; (with_reducible repeat (first | refine blk_drewN ?_ _ | refine blk_drew ?_ | refine blk_alloc ?_ _)); refine blk_put (cs := #[.string (⟨#[]⟩ : ByteArray), .string (⟨#[]⟩ : ByteArray), .int .i64 0, .int .i64 0]) ?_ 0 _ rfl; (with_reducible repeat (first | refine blk_drewN ?_ _ | refine blk_drew ?_ | refine blk_alloc ?_ _)); exact BK216.out⟩, ⟨by repeat (first | (with_reducible first | exact HB.out | apply below_alloc | apply pw_below_drewN | apply below_drew1 | refine below_set ?_ GE212.out | refine below_set ?_ GE216.out) | exact HB.out)⟩⟩
    ·rw [if_neg c12] at H
     exact absurd H (by simp)
   ·rw [if_neg c11] at H
    exact absurd H (by simp)
  ·rw [if_neg c10] at H
   have c10b0 : ((t213.length : Int) == 3) = false := beq_eq_false_iff_ne.mpr c10
   have c10b1 : ((t213.length : Int) != 3) = true := bne_iff_ne.mpr c10
   (first | rw [c10b0] | (simp only [i64_w, i32_w]; rw [c10b0]) | skip)
   have H' := Aside0.mk H
   clear H
   go_wp2
   go_meet
   case rel => exact ⟨_, ((⟨#[]⟩ : ByteArray)), ((⟨#[]⟩ : ByteArray)), (0), (0), H', ⟨by first | omega | exact Nat.le_refl _⟩, ⟨by (with_reducible repeat (first | apply Kd.R_alloc | apply Kd.R_drewN | apply Kd.R_drew)); exact Kd.R_mono (Kd.R_far (p := ⟨gb216, 3, none⟩) (Kd.R_far (p := ⟨gb216, 2, none⟩) (Kd.R_far (p := ⟨gb216, 1, none⟩) (Kd.R_far (p := ⟨gb216, 0, none⟩) (Kd.R_types HO215.out BK216.out (by decide)) (fun _ hk => hk.2) (.string (⟨#[]⟩ : ByteArray))) (fun _ hk => hk.2) (.string (⟨#[]⟩ : ByteArray))) (fun _ hk => hk.2) (.int .i64 0)) (fun _ hk => hk.2) (.int .i64 0)) (fun _ hk => trivial)⟩, ⟨by (with_reducible repeat (first | refine blk_drewN ?_ _ | refine blk_drew ?_ | refine blk_alloc ?_ _)); refine blk_far ?_ NB212_216.out _; (with_reducible repeat (first | refine blk_drewN ?_ _ | refine blk_drew ?_ | refine blk_alloc ?_ _)); refine blk_far ?_ NB212_216.out _; (with_reducible repeat (first | refine blk_drewN ?_ _ | refine blk_drew ?_ | refine blk_alloc ?_ _)); refine blk_far ?_ NB212_216.out _; (with_reducible repeat (first | refine blk_drewN ?_ _ | refine blk_drew ?_ | refine blk_alloc ?_ _)); refine blk_far ?_ NB212_216.out _; (with_reducible repeat (first | refine blk_drewN ?_ _ | refine blk_drew ?_ | refine blk_alloc ?_ _)); exact BK212.out⟩, ⟨by (with_reducible repeat (first | refine blk_drewN ?_ _ | refine blk_drew ?_ | refine blk_alloc ?_ _)); refine blk_put (cs := #[.string (⟨#[]⟩ : ByteArray), .string (⟨#[]⟩ : ByteArray), .int .i64 0, .int .i64 0]) ?_ 3 _ rfl; (with_reducible repeat (first | refine blk_drewN ?_ _ | refine blk_drew ?_ | refine blk_alloc ?_ _)); refine blk_put (cs := #[.string (⟨#[]⟩ : ByteArray), .string (⟨#[]⟩ : ByteArray), .int .i64 0, .int .i64 0]) ?_ 2 _ rfl; (with_reducible repeat (first | refine blk_drewN ?_ _ | refine blk_drew ?_ | refine blk_alloc ?_ _)); refine blk_put (cs := #[.string (⟨#[]⟩ : ByteArray), .string (⟨#[]⟩ : ByteArray), .int .i64 0, .int .i64 0]) ?_ 1 _ rfl; (with_reducible repeat (first | refine blk_drewN ?_ _ | refine blk_drew ?_ | refine blk_alloc ?_ _)); refine blk_put (cs := #[.string (⟨#[]⟩ : ByteArray), .string (⟨#[]⟩ : ByteArray), .int .i64 0, .int .i64 0]) ?_ 0 _ rfl; (with_reducible repeat (first | refine blk_drewN ?_ _ | refine blk_drew ?_ | refine blk_alloc ?_ _)); exact BK216.out⟩, ⟨by repeat (first | (with_reducible first | exact HB.out | apply below_alloc | apply pw_below_drewN | apply below_drew1 | refine below_set ?_ GE212.out | refine below_set ?_ GE216.out) | exact HB.out)⟩⟩
 case rest =>
  clear HC3
  try clear c1
  try clear c2
  try clear p2
  try clear q2
  try clear hx2
  try clear qi2
  try clear c3
  try clear c7
  try clear c10
  try clear c10b0
  try clear c10b1
  try clear c11
  try clear c11b0
  try clear c11b1
  try clear c12
  try clear c12b0
  try clear c12b1
  try clear hcz8_0
  try clear hcz8_1
  try clear hcz8_2
  try clear hcz8_3
  try clear hfz8_0
  try clear hfz8_1
  try clear hfz8_2
  try clear hfz8_3
  try clear hx217_0
  try clear hx218_0
  try clear p217
  try clear p218
  try clear q217
  try clear q218
  obtain ⟨kq, x217000_2, x217001_2, x217002_2, x217003_2, HA, HJ2, HO_4, BK212, BK216, HB⟩ := hcut
  cases kq with
  | zero => exact absurd HA.out (by simp [supercargoref22_One.j0])
  | succ kj2 =>
   have H := HA.out
   clear HA
   simp only [supercargoref22_One.j0] at H
   have HC20 := Aside0.mk H
   clear H
   go_upto_if 22 with (fail)
   go_cut [] (fun wc => ∃ (kq : Nat) (x217000_19 : ByteArray) (x217001_19 : ByteArray) (x217002_19 : Int) (x217003_19 : Int), Aside0 (supercargoref22_One.j1 kq a0 x217000_19 x217001_19 x217002_19 x217003_19 = some (r1, r2, r3, r4, r5)) ∧ Aside0 (kq ≤ kj2) ∧ Aside0 (wc.heap[gb212]? = some (.cells #[.string (⟨#[]⟩ : ByteArray), .string (⟨#[]⟩ : ByteArray), .int .i64 0, .int .i64 0] 34 (0, 0))) ∧ Aside0 (wc.heap[gb216]? = some (.cells #[.string x217000_19, .string x217001_19, .int .i64 x217002_19, .int .i64 x217003_19] 34 (0, 0))) ∧ Aside0 (Below w.heap.size w wc))
   case first =>
    have H := HC20.out
    clear HC20
    by_cases c21 : (t213.length : Int) = 4
    ·rw [if_pos c21] at H
     have c21b0 : ((t213.length : Int) == 4) = true := beq_iff_eq.mpr c21
     have c21b1 : ((t213.length : Int) != 4) = false := bne_eq_false_iff_eq.mpr c21
     clear c21
     (first | rw [c21b0] | (simp only [i64_w, i32_w]; rw [c21b0]) | skip)
     by_cases c22 : 1 < (t213.length : Int)
     ·rw [if_pos c22] at H
      have c22b0 : decide (1 < (t213.length : Int)) = true := decide_eq_true c22
      have c22b1 : decide (1 < t213.length) = true := decide_eq_true (by omega)
      clear c22
      by_cases c23 : 2 < (t213.length : Int)
      ·rw [if_pos c23] at H
       have c23b0 : decide (2 < (t213.length : Int)) = true := decide_eq_true c23
       have c23b1 : decide (2 < t213.length) = true := decide_eq_true (by omega)
       clear c23
       by_cases c24 : 3 < (t213.length : Int)
       ·rw [if_pos c24] at H
        have c24b0 : decide (3 < (t213.length : Int)) = true := decide_eq_true c24
        have c24b1 : decide (3 < t213.length) = true := decide_eq_true (by omega)
        clear c24
        replace H := Option.bind_eq_some_iff.mp H
        obtain ⟨t223, A250, H⟩ := H
        replace H : (if 0 < (t213.length : Int) then (if (rdOf ByteArray.empty t213 0).toList = ([111, 110, 108, 121] : List UInt8) then (supercargoref22_One.j1 kj2 a0 (rdOf ByteArray.empty t213 1) (rdOf ByteArray.empty t213 2) 2 t223) else (supercargoref22_One.j1 kj2 a0 (rdOf ByteArray.empty t213 1) (rdOf ByteArray.empty t213 2) 0 t223)) else (none)) = some (r1, r2, r3, r4, r5) := H
        have A25 := Aside0.mk A250
        clear A250
        by_cases c26 : 0 < (t213.length : Int)
        ·rw [if_pos c26] at H
         have c26b0 : decide (0 < (t213.length : Int)) = true := decide_eq_true c26
         have c26b1 : decide (0 < t213.length) = true := decide_eq_true (by omega)
         clear c26
         by_cases c27 : (rdOf ByteArray.empty t213 0).toList = ([111, 110, 108, 121] : List UInt8)
         ·rw [if_pos c27] at H
          have c27b0 : ((rdOf ByteArray.empty t213 0).toList == ([111, 110, 108, 121] : List UInt8)) = true := beq_iff_eq.mpr c27
          have c27b1 : ((rdOf ByteArray.empty t213 0).toList != ([111, 110, 108, 121] : List UInt8)) = false := bne_eq_false_iff_eq.mpr c27
          clear c27
          have H' := Aside0.mk H
          clear H
          try go_wp2
          have n0_ := Aside0.mk (Kd.R_drew HO_4.out)
          have n1_ := Aside0.mk (blk_drew BK212.out)
          have n2_ := Aside0.mk (blk_drew BK216.out)
          have n3_ := Aside0.mk (below_drew1 HB.out)
          clear HO_4
          clear BK212
          clear BK216
          clear HB
          have HO_4 := n0_
          have BK212 := n1_
          have BK216 := n2_
          have HB := n3_
          clear n0_ n1_ n2_ n3_
          have p220 : 0 ≤ (1 : Int) := (by omega)
          have q220 : 1 < (t213.length : Int) := of_decide_eq_true (by first | (with_reducible assumption) | assumption)
          obtain ⟨ad220, e220, hx220_0⟩ := Kd.at_string (Kd.R_reads' HO_4.out).2.2 1 p220 q220
          cases e220
          (try simp only [show (1 : Int).toNat = 1 from rfl, Nat.reduceMul, Nat.reduceEqDiff, Go.Addr.add, ↓reduceIte] at hx220_0)
          have qi220 : (1 < t213.length) = True := eq_true (by omega)
          (try rw [show ((1 : Int)).toNat = 1 from rfl] at hx220_0)
          replace p220 := eq_true p220
          replace q220 := eq_true q220
          have p221 : 0 ≤ (2 : Int) := (by omega)
          have q221 : 2 < (t213.length : Int) := of_decide_eq_true (by first | (with_reducible assumption) | assumption)
          obtain ⟨ad221, e221, hx221_0⟩ := Kd.at_string (Kd.R_reads' HO_4.out).2.2 2 p221 q221
          obtain rfl : ad220 = ad221 := (by injection e221)
          (try simp only [show (2 : Int).toNat = 2 from rfl, Nat.reduceMul, Nat.reduceEqDiff, Go.Addr.add, ↓reduceIte] at hx221_0)
          have qi221 : (2 < t213.length) = True := eq_true (by omega)
          (try rw [show ((2 : Int)).toNat = 2 from rfl] at hx221_0)
          replace p221 := eq_true p221
          replace q221 := eq_true q221
          have p222 : 0 ≤ (3 : Int) := (by omega)
          have q222 : 3 < (t213.length : Int) := of_decide_eq_true (by first | (with_reducible assumption) | assumption)
          obtain ⟨ad222, e222, hx222_0⟩ := Kd.at_string (Kd.R_reads' HO_4.out).2.2 3 p222 q222
          obtain rfl : ad220 = ad222 := (by injection e222)
          (try simp only [show (3 : Int).toNat = 3 from rfl, Nat.reduceMul, Nat.reduceEqDiff, Go.Addr.add, ↓reduceIte] at hx222_0)
          have qi222 : (3 < t213.length) = True := eq_true (by omega)
          (try rw [show ((3 : Int)).toNat = 3 from rfl] at hx222_0)
          replace p222 := eq_true p222
          replace q222 := eq_true q222
          refine start_ (n := 12) (S := fun w' => w'.cell? ⟨ad220.block, ad220.off + 1, none⟩ = some (.string (rdOf ByteArray.empty t213 1)) ∧ w'.cell? ⟨ad220.block, ad220.off + 2, none⟩ = some (.string (rdOf ByteArray.empty t213 2)) ∧ w'.cell? ⟨ad220.block, ad220.off + 3, none⟩ = some (.string (rdOf ByteArray.empty t213 3))) (ds := []) #[false, false, false, false, false, false, false, false, false, false, false, false] (by kernel_rfl) rfl rfl ⟨hx220_0, hx221_0, hx222_0⟩ (fun hHeld => ?_); refine with_tabW supercargoref22_One.tab6 supercargoref22_One.bits6 (fun HT_ HW_ => ?_)
          generalize wc.drew = w28 at HO_4 BK212 BK216 HB hx220_0 hx221_0 hx222_0 hHeld ⊢
          refine pure_ (i := 0) (N := some 23) (v := ?_) (a' := ?_) #[true, false, false, false, false, false, false, false, false, false, false, false] rfl rfl (any_of HT_.out (by kernel_rfl)) (fun _ _ _ h => h) (Or.inl ⟨by rfl, ?_⟩) ?_ ?_
          rotate_left
          ·intro w'
           go_simp
           with_reducible rfl
          rotate_left
          ·simp only [Act.put, setIfInBounds_toArray, set_cons_zero, set_cons_succ, i64_w]
           rfl
          refine pure_ (i := 1) (N := some 24) (v := ?_) (a' := ?_) #[true, true, false, false, false, false, false, false, false, false, false, false] rfl rfl (any_of HT_.out (by kernel_rfl)) (fun _ _ _ h => h) (Or.inl ⟨by rfl, ?_⟩) ?_ ?_
          rotate_left
          ·intro w'
           go_simp
           with_reducible rfl
          rotate_left
          ·simp only [Act.put, setIfInBounds_toArray, set_cons_zero, set_cons_succ, i64_w]
           rfl
          refine pure_ (i := 3) (N := some 26) (v := ?_) (a' := ?_) #[true, true, false, true, false, false, false, false, false, false, false, false] rfl rfl (any_of HT_.out (by kernel_rfl)) (fun _ _ _ h => h) (Or.inl ⟨by rfl, ?_⟩) ?_ ?_
          rotate_left
          ·intro w'
           go_simp
           with_reducible rfl
          rotate_left
          ·simp only [Act.put, setIfInBounds_toArray, set_cons_zero, set_cons_succ, i64_w]
           rfl
          refine pure_ (i := 4) (N := some 27) (v := ?_) (a' := ?_) #[true, true, false, true, true, false, false, false, false, false, false, false] rfl rfl (any_of HT_.out (by kernel_rfl)) (fun _ _ _ h => h) (Or.inl ⟨by rfl, ?_⟩) ?_ ?_
          rotate_left
          ·intro w'
           go_simp
           with_reducible rfl
          rotate_left
          ·simp only [Act.put, setIfInBounds_toArray, set_cons_zero, set_cons_succ, i64_w]
           rfl
          refine pure_ (i := 6) (N := some 29) (v := ?_) (a' := ?_) #[true, true, false, true, true, false, true, false, false, false, false, false] rfl rfl (any_of HT_.out (by kernel_rfl)) (fun _ _ _ h => h) (Or.inl ⟨by rfl, ?_⟩) ?_ ?_
          rotate_left
          ·intro w'
           go_simp
           with_reducible rfl
          rotate_left
          ·simp only [Act.put, setIfInBounds_toArray, set_cons_zero, set_cons_succ, i64_w]
           rfl
          refine pure_ (i := 7) (N := some 30) (v := ?_) (a' := ?_) #[true, true, false, true, true, false, true, true, false, false, false, false] rfl rfl (any_of HT_.out (by kernel_rfl)) (fun _ _ _ h => h) (Or.inl ⟨by rfl, ?_⟩) ?_ ?_
          rotate_left
          ·intro w'
           go_simp
           with_reducible rfl
          rotate_left
          ·simp only [Act.put, setIfInBounds_toArray, set_cons_zero, set_cons_succ, i64_w]
           rfl
          refine take_ (i := 2) (N := some 25) (v := ?_) (a' := ?_) #[true, true, true, true, true, false, true, true, false, false, false, false] rfl rfl (take_ofW HT_.out HW_.out (by kernel_rfl)) (fun _ _ _ h => h) (Or.inl ⟨by rfl, ?_⟩) hHeld ?_ ?_
          rotate_left
          ·rintro w' ⟨s0, s1, s2⟩
           go_simp
           with_reducible rfl
          rotate_left
          ·simp only [Act.put, setIfInBounds_toArray, set_cons_zero, set_cons_succ, i64_w]
           rfl
          refine take_ (i := 5) (N := some 28) (v := ?_) (a' := ?_) #[true, true, true, true, true, true, true, true, false, false, false, false] rfl rfl (take_ofW HT_.out HW_.out (by kernel_rfl)) (fun _ _ _ h => h) (Or.inl ⟨by rfl, ?_⟩) hHeld ?_ ?_
          rotate_left
          ·rintro w' ⟨s0, s1, s2⟩
           go_simp
           with_reducible rfl
          rotate_left
          ·simp only [Act.put, setIfInBounds_toArray, set_cons_zero, set_cons_succ, i64_w]
           rfl
          refine take_ (i := 8) (N := some 31) (v := ?_) (a' := ?_) #[true, true, true, true, true, true, true, true, true, false, false, false] rfl rfl (take_ofW HT_.out HW_.out (by kernel_rfl)) (fun _ _ _ h => h) (Or.inl ⟨by rfl, ?_⟩) hHeld ?_ ?_
          rotate_left
          ·rintro w' ⟨s0, s1, s2⟩
           go_simp
           with_reducible rfl
          rotate_left
          ·simp only [Act.put, setIfInBounds_toArray, set_cons_zero, set_cons_succ, i64_w]
           rfl
          refine one_ (i := 9) (N := some 32) #[true, true, true, true, true, true, true, true, true, true, false, false] rfl rfl (one_of HT_.out (by kernel_rfl)) (by decide) (fun K hK => ?_)
          refine goes_ Tryd.func33 (by kernel_rfl) rfl #[.string (rdOf ByteArray.empty t213 3)] (by rfl) rfl rfl (by (try simp only [List.map_toArray, List.map_cons, List.map_nil]); first | done | rfl | (simp only [List.length_drop, List.length_take]; rfl)) ?_
          with_reducible refine (supercargoref22_Number.calls kj2 (rdOf ByteArray.empty t213 3) t223 _ A25.out).mono ?_
          rintro e w' ⟨rfl, ⟨nd, rfl⟩⟩
          refine ⟨_, rfl, ?_⟩
          refine hK.out _ _ ⟨hHeld.1, hHeld.2.1, hHeld.2.2⟩ (fun hHeld => ?_)
          clear hK K
          refine norm_ (a' := ?_) ?_ ?_
          rotate_left
          ·show Act.put _ (some 32) _ = _
           simp only [Act.put, setIfInBounds_toArray, set_cons_zero, set_cons_succ, i64_w]
           rfl
          refine pure_ (i := 10) (N := some 33) (v := ?_) (a' := ?_) #[true, true, true, true, true, true, true, true, true, true, true, false] rfl rfl (any_of HT_.out (by kernel_rfl)) (fun _ _ _ h => h) (Or.inl ⟨by rfl, ?_⟩) ?_ ?_
          rotate_left
          ·intro w'
           go_simp
           with_reducible rfl
          rotate_left
          ·simp only [Act.put, setIfInBounds_toArray, set_cons_zero, set_cons_succ, i64_w]
           rfl
          refine one_ (i := 11) (N := none) #[true, true, true, true, true, true, true, true, true, true, true, true] rfl rfl (one_of HT_.out (by kernel_rfl)) (by decide) (fun K hK => ?_)
          have hs29 : w28.cell? ⟨gb216, 0, none⟩ = some (.string x217000_2) := (blk_cell BK216.out 0).trans rfl
          have hfs29 := blk_frozen BK216.out 0
          have hns29_0 := NB212_216.out
          have hms29_0 := NB216_212.out
          have hs30 : w28.cell? ⟨gb216, 1, none⟩ = some (.string x217001_2) := (blk_cell BK216.out 1).trans rfl
          have hfs30 := blk_frozen BK216.out 1
          have hns30_0 := NB212_216.out
          have hms30_0 := NB216_212.out
          have hs31 : w28.cell? ⟨gb216, 2, none⟩ = some (.int .i64 x217002_2) := (blk_cell BK216.out 2).trans rfl
          have hfs31 := blk_frozen BK216.out 2
          have hns31_0 := NB212_216.out
          have hms31_0 := NB216_212.out
          have hs32 : w28.cell? ⟨gb216, 3, none⟩ = some (.int .i64 x217003_2) := (blk_cell BK216.out 3).trans rfl
          have hfs32 := blk_frozen BK216.out 3
          have hns32_0 := NB212_216.out
          have hms32_0 := NB216_212.out
          refine skip_ (w1 := ?_) (by rfl) rfl ?_ ?_
          rotate_left
          ·go_simp
           rfl
          refine hK.out _ _ ⟨((cell_far (p := ⟨gb216, _, none⟩) (by first | exact Kd.own_blk (Kd.R_ne HO_4.out BK216.out (by decide)) | (rw [add_block]; exact Kd.own_blk (Kd.R_ne HO_4.out BK216.out (by decide))) | (show (Addr.add _ _).block ≠ _; rw [add_block]; exact Kd.own_blk (Kd.R_ne HO_4.out BK216.out (by decide))) | (dsimp only; exact Kd.own_blk (Kd.R_ne HO_4.out BK216.out (by decide)))) _).trans (((cell_far (p := ⟨gb216, _, none⟩) (by first | exact Kd.own_blk (Kd.R_ne HO_4.out BK216.out (by decide)) | (rw [add_block]; exact Kd.own_blk (Kd.R_ne HO_4.out BK216.out (by decide))) | (show (Addr.add _ _).block ≠ _; rw [add_block]; exact Kd.own_blk (Kd.R_ne HO_4.out BK216.out (by decide))) | (dsimp only; exact Kd.own_blk (Kd.R_ne HO_4.out BK216.out (by decide)))) _).trans (((cell_far (p := ⟨gb216, _, none⟩) (by first | exact Kd.own_blk (Kd.R_ne HO_4.out BK216.out (by decide)) | (rw [add_block]; exact Kd.own_blk (Kd.R_ne HO_4.out BK216.out (by decide))) | (show (Addr.add _ _).block ≠ _; rw [add_block]; exact Kd.own_blk (Kd.R_ne HO_4.out BK216.out (by decide))) | (dsimp only; exact Kd.own_blk (Kd.R_ne HO_4.out BK216.out (by decide)))) _).trans (((cell_far (p := ⟨gb216, _, none⟩) (by first | exact Kd.own_blk (Kd.R_ne HO_4.out BK216.out (by decide)) | (rw [add_block]; exact Kd.own_blk (Kd.R_ne HO_4.out BK216.out (by decide))) | (show (Addr.add _ _).block ≠ _; rw [add_block]; exact Kd.own_blk (Kd.R_ne HO_4.out BK216.out (by decide))) | (dsimp only; exact Kd.own_blk (Kd.R_ne HO_4.out BK216.out (by decide)))) _).trans (hHeld.1)))))))), ((cell_far (p := ⟨gb216, _, none⟩) (by first | exact Kd.own_blk (Kd.R_ne HO_4.out BK216.out (by decide)) | (rw [add_block]; exact Kd.own_blk (Kd.R_ne HO_4.out BK216.out (by decide))) | (show (Addr.add _ _).block ≠ _; rw [add_block]; exact Kd.own_blk (Kd.R_ne HO_4.out BK216.out (by decide))) | (dsimp only; exact Kd.own_blk (Kd.R_ne HO_4.out BK216.out (by decide)))) _).trans (((cell_far (p := ⟨gb216, _, none⟩) (by first | exact Kd.own_blk (Kd.R_ne HO_4.out BK216.out (by decide)) | (rw [add_block]; exact Kd.own_blk (Kd.R_ne HO_4.out BK216.out (by decide))) | (show (Addr.add _ _).block ≠ _; rw [add_block]; exact Kd.own_blk (Kd.R_ne HO_4.out BK216.out (by decide))) | (dsimp only; exact Kd.own_blk (Kd.R_ne HO_4.out BK216.out (by decide)))) _).trans (((cell_far (p := ⟨gb216, _, none⟩) (by first | exact Kd.own_blk (Kd.R_ne HO_4.out BK216.out (by decide)) | (rw [add_block]; exact Kd.own_blk (Kd.R_ne HO_4.out BK216.out (by decide))) | (show (Addr.add _ _).block ≠ _; rw [add_block]; exact Kd.own_blk (Kd.R_ne HO_4.out BK216.out (by decide))) | (dsimp only; exact Kd.own_blk (Kd.R_ne HO_4.out BK216.out (by decide)))) _).trans (((cell_far (p := ⟨gb216, _, none⟩) (by first | exact Kd.own_blk (Kd.R_ne HO_4.out BK216.out (by decide)) | (rw [add_block]; exact Kd.own_blk (Kd.R_ne HO_4.out BK216.out (by decide))) | (show (Addr.add _ _).block ≠ _; rw [add_block]; exact Kd.own_blk (Kd.R_ne HO_4.out BK216.out (by decide))) | (dsimp only; exact Kd.own_blk (Kd.R_ne HO_4.out BK216.out (by decide)))) _).trans (hHeld.2.1)))))))), ((cell_far (p := ⟨gb216, _, none⟩) (by first | exact Kd.own_blk (Kd.R_ne HO_4.out BK216.out (by decide)) | (rw [add_block]; exact Kd.own_blk (Kd.R_ne HO_4.out BK216.out (by decide))) | (show (Addr.add _ _).block ≠ _; rw [add_block]; exact Kd.own_blk (Kd.R_ne HO_4.out BK216.out (by decide))) | (dsimp only; exact Kd.own_blk (Kd.R_ne HO_4.out BK216.out (by decide)))) _).trans (((cell_far (p := ⟨gb216, _, none⟩) (by first | exact Kd.own_blk (Kd.R_ne HO_4.out BK216.out (by decide)) | (rw [add_block]; exact Kd.own_blk (Kd.R_ne HO_4.out BK216.out (by decide))) | (show (Addr.add _ _).block ≠ _; rw [add_block]; exact Kd.own_blk (Kd.R_ne HO_4.out BK216.out (by decide))) | (dsimp only; exact Kd.own_blk (Kd.R_ne HO_4.out BK216.out (by decide)))) _).trans (((cell_far (p := ⟨gb216, _, none⟩) (by first | exact Kd.own_blk (Kd.R_ne HO_4.out BK216.out (by decide)) | (rw [add_block]; exact Kd.own_blk (Kd.R_ne HO_4.out BK216.out (by decide))) | (show (Addr.add _ _).block ≠ _; rw [add_block]; exact Kd.own_blk (Kd.R_ne HO_4.out BK216.out (by decide))) | (dsimp only; exact Kd.own_blk (Kd.R_ne HO_4.out BK216.out (by decide)))) _).trans (((cell_far (p := ⟨gb216, _, none⟩) (by first | exact Kd.own_blk (Kd.R_ne HO_4.out BK216.out (by decide)) | (rw [add_block]; exact Kd.own_blk (Kd.R_ne HO_4.out BK216.out (by decide))) | (show (Addr.add _ _).block ≠ _; rw [add_block]; exact Kd.own_blk (Kd.R_ne HO_4.out BK216.out (by decide))) | (dsimp only; exact Kd.own_blk (Kd.R_ne HO_4.out BK216.out (by decide)))) _).trans (hHeld.2.2))))))))⟩ (fun hHeld => ?_)
          clear hK K
          refine done_ (done_of HT_.out (by kernel_rfl)) ?_
          have p224 : 0 ≤ (0 : Int) := (by omega)
          have q224 : 0 < (t213.length : Int) := of_decide_eq_true (by first | (with_reducible assumption) | assumption)
          obtain ⟨ad224, e224, hx224_0⟩ := Kd.at_string (Kd.R_reads' HO_4.out).2.2 0 p224 q224
          obtain rfl : ad220 = ad224 := (by injection e224)
          have qi224 : (0 < t213.length) = True := eq_true (by omega)
          (try rw [show ((0 : Int)).toNat = 0 from rfl] at hx224_0)
          (try rw [Addr.add_zero'] at hx224_0)
          have hn224_0 : ad220.block ≠ gb216 := Kd.own_blk (Kd.R_ne HO_4.out BK216.out (by decide))
          have hn224_1 : ad220.block ≠ gb216 := Kd.own_blk (Kd.R_ne HO_4.out BK216.out (by decide))
          have hn224_2 : ad220.block ≠ gb216 := Kd.own_blk (Kd.R_ne HO_4.out BK216.out (by decide))
          have hn224_3 : ad220.block ≠ gb216 := Kd.own_blk (Kd.R_ne HO_4.out BK216.out (by decide))
          replace hx224_0 := (cell_far (p := ⟨gb216, 0, none⟩) (by first | (rw [add_block]; exact hn224_0) | (show (Addr.add _ _).block ≠ _; rw [add_block]; exact hn224_0) | exact hn224_0) (.string (rdOf ByteArray.empty t213 1))).trans hx224_0
          replace hx224_0 := (cell_far (p := ⟨gb216, 1, none⟩) (by first | (rw [add_block]; exact hn224_1) | (show (Addr.add _ _).block ≠ _; rw [add_block]; exact hn224_1) | exact hn224_1) (.string (rdOf ByteArray.empty t213 2))).trans hx224_0
          replace hx224_0 := (cell_far (p := ⟨gb216, 2, none⟩) (by first | (rw [add_block]; exact hn224_2) | (show (Addr.add _ _).block ≠ _; rw [add_block]; exact hn224_2) | exact hn224_2) (.int .i64 0)).trans hx224_0
          replace hx224_0 := (cell_far (p := ⟨gb216, 3, none⟩) (by first | (rw [add_block]; exact hn224_3) | (show (Addr.add _ _).block ≠ _; rw [add_block]; exact hn224_3) | exact hn224_3) (.int .i64 t223)).trans hx224_0
          have hx224_9 : (((((w28.drewN nd).setCell ⟨gb216, 0, none⟩ (.string (rdOf ByteArray.empty t213 1))).setCell ⟨gb216, 1, none⟩ (.string (rdOf ByteArray.empty t213 2))).setCell ⟨gb216, 2, none⟩ (.int .i64 0)).setCell ⟨gb216, 3, none⟩ (.int .i64 t223)).cell? ad220 = some (.string (rdOf ByteArray.empty t213 0)) := hx224_0
          clear hn224_0
          clear hn224_1
          clear hn224_2
          clear hn224_3
          replace p224 := eq_true p224
          replace q224 := eq_true q224
          have hnb33 := NB216_212.out
          have hnc33 := NB212_216.out
          have hcz34_0 : w28.cell? ⟨gb216, 0, none⟩ = some (.string x217000_2) := (blk_cell BK216.out 0).trans rfl
          have hcz34_1 : w28.cell? ⟨gb216, 1, none⟩ = some (.string x217001_2) := (blk_cell BK216.out 1).trans rfl
          have hcz34_2 : w28.cell? ⟨gb216, 2, none⟩ = some (.int .i64 x217002_2) := (blk_cell BK216.out 2).trans rfl
          have hcz34_3 : w28.cell? ⟨gb216, 3, none⟩ = some (.int .i64 x217003_2) := (blk_cell BK216.out 3).trans rfl
          have hfz34_0 := blk_frozen BK216.out 0
          have hfz34_1 := blk_frozen BK216.out 1
          have hfz34_2 := blk_frozen BK216.out 2
          have hfz34_3 := blk_frozen BK216.out 3
          try go_wp2
          go_meet
          case rel => exact ⟨_, (rdOf ByteArray.empty t213 1), (rdOf ByteArray.empty t213 2), (2), (t223), H', ⟨by have := HJ2.out; first | omega | exact Nat.le_refl _⟩, ⟨by (with_reducible repeat (first | refine blk_drewN ?_ _ | refine blk_drew ?_ | refine blk_alloc ?_ _)); refine blk_far ?_ NB212_216.out _; (with_reducible repeat (first | refine blk_drewN ?_ _ | refine blk_drew ?_ | refine blk_alloc ?_ _)); refine blk_far ?_ NB212_216.out _; (with_reducible repeat (first | refine blk_drewN ?_ _ | refine blk_drew ?_ | refine blk_alloc ?_ _)); refine blk_far ?_ NB212_216.out _; (with_reducible repeat (first | refine blk_drewN ?_ _ | refine blk_drew ?_ | refine blk_alloc ?_ _)); refine blk_far ?_ NB212_216.out _; (with_reducible repeat (first | refine blk_drewN ?_ _ | refine blk_drew ?_ | refine blk_alloc ?_ _)); refine blk_far ?_ NB212_216.out _; (with_reducible repeat (first | refine blk_drewN ?_ _ | refine blk_drew ?_ | refine blk_alloc ?_ _)); exact BK212.out⟩, ⟨by (with_reducible repeat (first | refine blk_drewN ?_ _ | refine blk_drew ?_ | refine blk_alloc ?_ _)); refine blk_put (cs := #[.string (rdOf ByteArray.empty t213 1), .string (rdOf ByteArray.empty t213 2), .int .i64 0, .int .i64 t223]) ?_ 2 _ rfl; (with_reducible repeat (first | refine blk_drewN ?_ _ | refine blk_drew ?_ | refine blk_alloc ?_ _)); refine blk_put (cs := #[.string (rdOf ByteArray.empty t213 1), .string (rdOf ByteArray.empty t213 2), .int .i64 0, .int .i64 x217003_2]) ?_ 3 _ rfl; (with_reducible repeat (first | refine blk_drewN ?_ _ | refine blk_drew ?_ | refine blk_alloc ?_ _)); refine blk_put (cs := #[.string (rdOf ByteArray.empty t213 1), .string (rdOf ByteArray.empty t213 2), .int .i64 x217002_2, .int .i64 x217003_2]) ?_ 2 _ rfl; (with_reducible repeat (first | refine blk_drewN ?_ _ | refine blk_drew ?_ | refine blk_alloc ?_ _)); refine blk_put (cs := #[.string (rdOf ByteArray.empty t213 1), .string x217001_2, .int .i64 x217002_2, .int .i64 x217003_2]) ?_ 1 _ rfl; (with_reducible repeat (first | refine blk_drewN ?_ _ | refine blk_drew ?_ | refine blk_alloc ?_ _)); refine blk_put (cs := #[.string x217000_2, .string x217001_2, .int .i64 x217002_2, .int .i64 x217003_2]) ?_ 0 _ rfl; (with_reducible repeat (first | refine blk_drewN ?_ _ | refine blk_drew ?_ | refine blk_alloc ?_ _)); exact BK216.out⟩, ⟨by repeat (first | (with_reducible first | exact HB.out | apply below_alloc | apply pw_below_drewN | apply below_drew1 | refine below_set ?_ GE212.out | refine below_set ?_ GE216.out) | exact HB.out)⟩⟩
         ·rw [if_neg c27] at H
          have c27b0 : ((rdOf ByteArray.empty t213 0).toList == ([111, 110, 108, 121] : List UInt8)) = false := beq_eq_false_iff_ne.mpr c27
          have c27b1 : ((rdOf ByteArray.empty t213 0).toList != ([111, 110, 108, 121] : List UInt8)) = true := bne_iff_ne.mpr c27
          have H' := Aside0.mk H
          clear H
          try go_wp2
          have n0_ := Aside0.mk (Kd.R_drew HO_4.out)
          have n1_ := Aside0.mk (blk_drew BK212.out)
          have n2_ := Aside0.mk (blk_drew BK216.out)
          have n3_ := Aside0.mk (below_drew1 HB.out)
          clear HO_4
          clear BK212
          clear BK216
          clear HB
          have HO_4 := n0_
          have BK212 := n1_
          have BK216 := n2_
          have HB := n3_
          clear n0_ n1_ n2_ n3_
          have p220 : 0 ≤ (1 : Int) := (by omega)
          have q220 : 1 < (t213.length : Int) := of_decide_eq_true (by first | (with_reducible assumption) | assumption)
          obtain ⟨ad220, e220, hx220_0⟩ := Kd.at_string (Kd.R_reads' HO_4.out).2.2 1 p220 q220
          cases e220
          (try simp only [show (1 : Int).toNat = 1 from rfl, Nat.reduceMul, Nat.reduceEqDiff, Go.Addr.add, ↓reduceIte] at hx220_0)
          have qi220 : (1 < t213.length) = True := eq_true (by omega)
          (try rw [show ((1 : Int)).toNat = 1 from rfl] at hx220_0)
          replace p220 := eq_true p220
          replace q220 := eq_true q220
          have p221 : 0 ≤ (2 : Int) := (by omega)
          have q221 : 2 < (t213.length : Int) := of_decide_eq_true (by first | (with_reducible assumption) | assumption)
          obtain ⟨ad221, e221, hx221_0⟩ := Kd.at_string (Kd.R_reads' HO_4.out).2.2 2 p221 q221
          obtain rfl : ad220 = ad221 := (by injection e221)
          (try simp only [show (2 : Int).toNat = 2 from rfl, Nat.reduceMul, Nat.reduceEqDiff, Go.Addr.add, ↓reduceIte] at hx221_0)
          have qi221 : (2 < t213.length) = True := eq_true (by omega)
          (try rw [show ((2 : Int)).toNat = 2 from rfl] at hx221_0)
          replace p221 := eq_true p221
          replace q221 := eq_true q221
          have p222 : 0 ≤ (3 : Int) := (by omega)
          have q222 : 3 < (t213.length : Int) := of_decide_eq_true (by first | (with_reducible assumption) | assumption)
          obtain ⟨ad222, e222, hx222_0⟩ := Kd.at_string (Kd.R_reads' HO_4.out).2.2 3 p222 q222
          obtain rfl : ad220 = ad222 := (by injection e222)
          (try simp only [show (3 : Int).toNat = 3 from rfl, Nat.reduceMul, Nat.reduceEqDiff, Go.Addr.add, ↓reduceIte] at hx222_0)
          have qi222 : (3 < t213.length) = True := eq_true (by omega)
          (try rw [show ((3 : Int)).toNat = 3 from rfl] at hx222_0)
          replace p222 := eq_true p222
          replace q222 := eq_true q222
          refine start_ (n := 12) (S := fun w' => w'.cell? ⟨ad220.block, ad220.off + 1, none⟩ = some (.string (rdOf ByteArray.empty t213 1)) ∧ w'.cell? ⟨ad220.block, ad220.off + 2, none⟩ = some (.string (rdOf ByteArray.empty t213 2)) ∧ w'.cell? ⟨ad220.block, ad220.off + 3, none⟩ = some (.string (rdOf ByteArray.empty t213 3))) (ds := []) #[false, false, false, false, false, false, false, false, false, false, false, false] (by kernel_rfl) rfl rfl ⟨hx220_0, hx221_0, hx222_0⟩ (fun hHeld => ?_); refine with_tabW supercargoref22_One.tab6 supercargoref22_One.bits6 (fun HT_ HW_ => ?_)
          generalize wc.drew = w35 at HO_4 BK212 BK216 HB hx220_0 hx221_0 hx222_0 hHeld ⊢
          refine pure_ (i := 0) (N := some 23) (v := ?_) (a' := ?_) #[true, false, false, false, false, false, false, false, false, false, false, false] rfl rfl (any_of HT_.out (by kernel_rfl)) (fun _ _ _ h => h) (Or.inl ⟨by rfl, ?_⟩) ?_ ?_
          rotate_left
          ·intro w'
           go_simp
           with_reducible rfl
          rotate_left
          ·simp only [Act.put, setIfInBounds_toArray, set_cons_zero, set_cons_succ, i64_w]
           rfl
          refine pure_ (i := 1) (N := some 24) (v := ?_) (a' := ?_) #[true, true, false, false, false, false, false, false, false, false, false, false] rfl rfl (any_of HT_.out (by kernel_rfl)) (fun _ _ _ h => h) (Or.inl ⟨by rfl, ?_⟩) ?_ ?_
          rotate_left
          ·intro w'
           go_simp
           with_reducible rfl
          rotate_left
          ·simp only [Act.put, setIfInBounds_toArray, set_cons_zero, set_cons_succ, i64_w]
           rfl
          refine pure_ (i := 3) (N := some 26) (v := ?_) (a' := ?_) #[true, true, false, true, false, false, false, false, false, false, false, false] rfl rfl (any_of HT_.out (by kernel_rfl)) (fun _ _ _ h => h) (Or.inl ⟨by rfl, ?_⟩) ?_ ?_
          rotate_left
          ·intro w'
           go_simp
           with_reducible rfl
          rotate_left
          ·simp only [Act.put, setIfInBounds_toArray, set_cons_zero, set_cons_succ, i64_w]
           rfl
          refine pure_ (i := 4) (N := some 27) (v := ?_) (a' := ?_) #[true, true, false, true, true, false, false, false, false, false, false, false] rfl rfl (any_of HT_.out (by kernel_rfl)) (fun _ _ _ h => h) (Or.inl ⟨by rfl, ?_⟩) ?_ ?_
          rotate_left
          ·intro w'
           go_simp
           with_reducible rfl
          rotate_left
          ·simp only [Act.put, setIfInBounds_toArray, set_cons_zero, set_cons_succ, i64_w]
           rfl
          refine pure_ (i := 6) (N := some 29) (v := ?_) (a' := ?_) #[true, true, false, true, true, false, true, false, false, false, false, false] rfl rfl (any_of HT_.out (by kernel_rfl)) (fun _ _ _ h => h) (Or.inl ⟨by rfl, ?_⟩) ?_ ?_
          rotate_left
          ·intro w'
           go_simp
           with_reducible rfl
          rotate_left
          ·simp only [Act.put, setIfInBounds_toArray, set_cons_zero, set_cons_succ, i64_w]
           rfl
          refine pure_ (i := 7) (N := some 30) (v := ?_) (a' := ?_) #[true, true, false, true, true, false, true, true, false, false, false, false] rfl rfl (any_of HT_.out (by kernel_rfl)) (fun _ _ _ h => h) (Or.inl ⟨by rfl, ?_⟩) ?_ ?_
          rotate_left
          ·intro w'
           go_simp
           with_reducible rfl
          rotate_left
          ·simp only [Act.put, setIfInBounds_toArray, set_cons_zero, set_cons_succ, i64_w]
           rfl
          refine take_ (i := 2) (N := some 25) (v := ?_) (a' := ?_) #[true, true, true, true, true, false, true, true, false, false, false, false] rfl rfl (take_ofW HT_.out HW_.out (by kernel_rfl)) (fun _ _ _ h => h) (Or.inl ⟨by rfl, ?_⟩) hHeld ?_ ?_
          rotate_left
          ·rintro w' ⟨s0, s1, s2⟩
           go_simp
           with_reducible rfl
          rotate_left
          ·simp only [Act.put, setIfInBounds_toArray, set_cons_zero, set_cons_succ, i64_w]
           rfl
          refine take_ (i := 5) (N := some 28) (v := ?_) (a' := ?_) #[true, true, true, true, true, true, true, true, false, false, false, false] rfl rfl (take_ofW HT_.out HW_.out (by kernel_rfl)) (fun _ _ _ h => h) (Or.inl ⟨by rfl, ?_⟩) hHeld ?_ ?_
          rotate_left
          ·rintro w' ⟨s0, s1, s2⟩
           go_simp
           with_reducible rfl
          rotate_left
          ·simp only [Act.put, setIfInBounds_toArray, set_cons_zero, set_cons_succ, i64_w]
           rfl
          refine take_ (i := 8) (N := some 31) (v := ?_) (a' := ?_) #[true, true, true, true, true, true, true, true, true, false, false, false] rfl rfl (take_ofW HT_.out HW_.out (by kernel_rfl)) (fun _ _ _ h => h) (Or.inl ⟨by rfl, ?_⟩) hHeld ?_ ?_
          rotate_left
          ·rintro w' ⟨s0, s1, s2⟩
           go_simp
           with_reducible rfl
          rotate_left
          ·simp only [Act.put, setIfInBounds_toArray, set_cons_zero, set_cons_succ, i64_w]
           rfl
          refine one_ (i := 9) (N := some 32) #[true, true, true, true, true, true, true, true, true, true, false, false] rfl rfl (one_of HT_.out (by kernel_rfl)) (by decide) (fun K hK => ?_)
          refine goes_ Tryd.func33 (by kernel_rfl) rfl #[.string (rdOf ByteArray.empty t213 3)] (by rfl) rfl rfl (by (try simp only [List.map_toArray, List.map_cons, List.map_nil]); first | done | rfl | (simp only [List.length_drop, List.length_take]; rfl)) ?_
          with_reducible refine (supercargoref22_Number.calls kj2 (rdOf ByteArray.empty t213 3) t223 _ A25.out).mono ?_
          rintro e w' ⟨rfl, ⟨nd, rfl⟩⟩
          refine ⟨_, rfl, ?_⟩
          refine hK.out _ _ ⟨hHeld.1, hHeld.2.1, hHeld.2.2⟩ (fun hHeld => ?_)
          clear hK K
          refine norm_ (a' := ?_) ?_ ?_
          rotate_left
          ·show Act.put _ (some 32) _ = _
           simp only [Act.put, setIfInBounds_toArray, set_cons_zero, set_cons_succ, i64_w]
           rfl
          refine pure_ (i := 10) (N := some 33) (v := ?_) (a' := ?_) #[true, true, true, true, true, true, true, true, true, true, true, false] rfl rfl (any_of HT_.out (by kernel_rfl)) (fun _ _ _ h => h) (Or.inl ⟨by rfl, ?_⟩) ?_ ?_
          rotate_left
          ·intro w'
           go_simp
           with_reducible rfl
          rotate_left
          ·simp only [Act.put, setIfInBounds_toArray, set_cons_zero, set_cons_succ, i64_w]
           rfl
          refine one_ (i := 11) (N := none) #[true, true, true, true, true, true, true, true, true, true, true, true] rfl rfl (one_of HT_.out (by kernel_rfl)) (by decide) (fun K hK => ?_)
          have hs36 : w35.cell? ⟨gb216, 0, none⟩ = some (.string x217000_2) := (blk_cell BK216.out 0).trans rfl
          have hfs36 := blk_frozen BK216.out 0
          have hns36_0 := NB212_216.out
          have hms36_0 := NB216_212.out
          have hs37 : w35.cell? ⟨gb216, 1, none⟩ = some (.string x217001_2) := (blk_cell BK216.out 1).trans rfl
          have hfs37 := blk_frozen BK216.out 1
          have hns37_0 := NB212_216.out
          have hms37_0 := NB216_212.out
          have hs38 : w35.cell? ⟨gb216, 2, none⟩ = some (.int .i64 x217002_2) := (blk_cell BK216.out 2).trans rfl
          have hfs38 := blk_frozen BK216.out 2
          have hns38_0 := NB212_216.out
          have hms38_0 := NB216_212.out
          have hs39 : w35.cell? ⟨gb216, 3, none⟩ = some (.int .i64 x217003_2) := (blk_cell BK216.out 3).trans rfl
          have hfs39 := blk_frozen BK216.out 3
          have hns39_0 := NB212_216.out
          have hms39_0 := NB216_212.out
          refine skip_ (w1 := ?_) (by rfl) rfl ?_ ?_
          rotate_left
          ·go_simp
           rfl
          refine hK.out _ _ ⟨((cell_far (p := ⟨gb216, _, none⟩) (by first | exact Kd.own_blk (Kd.R_ne HO_4.out BK216.out (by decide)) | (rw [add_block]; exact Kd.own_blk (Kd.R_ne HO_4.out BK216.out (by decide))) | (show (Addr.add _ _).block ≠ _; rw [add_block]; exact Kd.own_blk (Kd.R_ne HO_4.out BK216.out (by decide))) | (dsimp only; exact Kd.own_blk (Kd.R_ne HO_4.out BK216.out (by decide)))) _).trans (((cell_far (p := ⟨gb216, _, none⟩) (by first | exact Kd.own_blk (Kd.R_ne HO_4.out BK216.out (by decide)) | (rw [add_block]; exact Kd.own_blk (Kd.R_ne HO_4.out BK216.out (by decide))) | (show (Addr.add _ _).block ≠ _; rw [add_block]; exact Kd.own_blk (Kd.R_ne HO_4.out BK216.out (by decide))) | (dsimp only; exact Kd.own_blk (Kd.R_ne HO_4.out BK216.out (by decide)))) _).trans (((cell_far (p := ⟨gb216, _, none⟩) (by first | exact Kd.own_blk (Kd.R_ne HO_4.out BK216.out (by decide)) | (rw [add_block]; exact Kd.own_blk (Kd.R_ne HO_4.out BK216.out (by decide))) | (show (Addr.add _ _).block ≠ _; rw [add_block]; exact Kd.own_blk (Kd.R_ne HO_4.out BK216.out (by decide))) | (dsimp only; exact Kd.own_blk (Kd.R_ne HO_4.out BK216.out (by decide)))) _).trans (((cell_far (p := ⟨gb216, _, none⟩) (by first | exact Kd.own_blk (Kd.R_ne HO_4.out BK216.out (by decide)) | (rw [add_block]; exact Kd.own_blk (Kd.R_ne HO_4.out BK216.out (by decide))) | (show (Addr.add _ _).block ≠ _; rw [add_block]; exact Kd.own_blk (Kd.R_ne HO_4.out BK216.out (by decide))) | (dsimp only; exact Kd.own_blk (Kd.R_ne HO_4.out BK216.out (by decide)))) _).trans (hHeld.1)))))))), ((cell_far (p := ⟨gb216, _, none⟩) (by first | exact Kd.own_blk (Kd.R_ne HO_4.out BK216.out (by decide)) | (rw [add_block]; exact Kd.own_blk (Kd.R_ne HO_4.out BK216.out (by decide))) | (show (Addr.add _ _).block ≠ _; rw [add_block]; exact Kd.own_blk (Kd.R_ne HO_4.out BK216.out (by decide))) | (dsimp only; exact Kd.own_blk (Kd.R_ne HO_4.out BK216.out (by decide)))) _).trans (((cell_far (p := ⟨gb216, _, none⟩) (by first | exact Kd.own_blk (Kd.R_ne HO_4.out BK216.out (by decide)) | (rw [add_block]; exact Kd.own_blk (Kd.R_ne HO_4.out BK216.out (by decide))) | (show (Addr.add _ _).block ≠ _; rw [add_block]; exact Kd.own_blk (Kd.R_ne HO_4.out BK216.out (by decide))) | (dsimp only; exact Kd.own_blk (Kd.R_ne HO_4.out BK216.out (by decide)))) _).trans (((cell_far (p := ⟨gb216, _, none⟩) (by first | exact Kd.own_blk (Kd.R_ne HO_4.out BK216.out (by decide)) | (rw [add_block]; exact Kd.own_blk (Kd.R_ne HO_4.out BK216.out (by decide))) | (show (Addr.add _ _).block ≠ _; rw [add_block]; exact Kd.own_blk (Kd.R_ne HO_4.out BK216.out (by decide))) | (dsimp only; exact Kd.own_blk (Kd.R_ne HO_4.out BK216.out (by decide)))) _).trans (((cell_far (p := ⟨gb216, _, none⟩) (by first | exact Kd.own_blk (Kd.R_ne HO_4.out BK216.out (by decide)) | (rw [add_block]; exact Kd.own_blk (Kd.R_ne HO_4.out BK216.out (by decide))) | (show (Addr.add _ _).block ≠ _; rw [add_block]; exact Kd.own_blk (Kd.R_ne HO_4.out BK216.out (by decide))) | (dsimp only; exact Kd.own_blk (Kd.R_ne HO_4.out BK216.out (by decide)))) _).trans (hHeld.2.1)))))))), ((cell_far (p := ⟨gb216, _, none⟩) (by first | exact Kd.own_blk (Kd.R_ne HO_4.out BK216.out (by decide)) | (rw [add_block]; exact Kd.own_blk (Kd.R_ne HO_4.out BK216.out (by decide))) | (show (Addr.add _ _).block ≠ _; rw [add_block]; exact Kd.own_blk (Kd.R_ne HO_4.out BK216.out (by decide))) | (dsimp only; exact Kd.own_blk (Kd.R_ne HO_4.out BK216.out (by decide)))) _).trans (((cell_far (p := ⟨gb216, _, none⟩) (by first | exact Kd.own_blk (Kd.R_ne HO_4.out BK216.out (by decide)) | (rw [add_block]; exact Kd.own_blk (Kd.R_ne HO_4.out BK216.out (by decide))) | (show (Addr.add _ _).block ≠ _; rw [add_block]; exact Kd.own_blk (Kd.R_ne HO_4.out BK216.out (by decide))) | (dsimp only; exact Kd.own_blk (Kd.R_ne HO_4.out BK216.out (by decide)))) _).trans (((cell_far (p := ⟨gb216, _, none⟩) (by first | exact Kd.own_blk (Kd.R_ne HO_4.out BK216.out (by decide)) | (rw [add_block]; exact Kd.own_blk (Kd.R_ne HO_4.out BK216.out (by decide))) | (show (Addr.add _ _).block ≠ _; rw [add_block]; exact Kd.own_blk (Kd.R_ne HO_4.out BK216.out (by decide))) | (dsimp only; exact Kd.own_blk (Kd.R_ne HO_4.out BK216.out (by decide)))) _).trans (((cell_far (p := ⟨gb216, _, none⟩) (by first | exact Kd.own_blk (Kd.R_ne HO_4.out BK216.out (by decide)) | (rw [add_block]; exact Kd.own_blk (Kd.R_ne HO_4.out BK216.out (by decide))) | (show (Addr.add _ _).block ≠ _; rw [add_block]; exact Kd.own_blk (Kd.R_ne HO_4.out BK216.out (by decide))) | (dsimp only; exact Kd.own_blk (Kd.R_ne HO_4.out BK216.out (by decide)))) _).trans (hHeld.2.2))))))))⟩ (fun hHeld => ?_)
          clear hK K
          refine done_ (done_of HT_.out (by kernel_rfl)) ?_
          have p224 : 0 ≤ (0 : Int) := (by omega)
          have q224 : 0 < (t213.length : Int) := of_decide_eq_true (by first | (with_reducible assumption) | assumption)
          obtain ⟨ad224, e224, hx224_0⟩ := Kd.at_string (Kd.R_reads' HO_4.out).2.2 0 p224 q224
          obtain rfl : ad220 = ad224 := (by injection e224)
          have qi224 : (0 < t213.length) = True := eq_true (by omega)
          (try rw [show ((0 : Int)).toNat = 0 from rfl] at hx224_0)
          (try rw [Addr.add_zero'] at hx224_0)
          have hn224_0 : ad220.block ≠ gb216 := Kd.own_blk (Kd.R_ne HO_4.out BK216.out (by decide))
          have hn224_1 : ad220.block ≠ gb216 := Kd.own_blk (Kd.R_ne HO_4.out BK216.out (by decide))
          have hn224_2 : ad220.block ≠ gb216 := Kd.own_blk (Kd.R_ne HO_4.out BK216.out (by decide))
          have hn224_3 : ad220.block ≠ gb216 := Kd.own_blk (Kd.R_ne HO_4.out BK216.out (by decide))
          replace hx224_0 := (cell_far (p := ⟨gb216, 0, none⟩) (by first | (rw [add_block]; exact hn224_0) | (show (Addr.add _ _).block ≠ _; rw [add_block]; exact hn224_0) | exact hn224_0) (.string (rdOf ByteArray.empty t213 1))).trans hx224_0
          replace hx224_0 := (cell_far (p := ⟨gb216, 1, none⟩) (by first | (rw [add_block]; exact hn224_1) | (show (Addr.add _ _).block ≠ _; rw [add_block]; exact hn224_1) | exact hn224_1) (.string (rdOf ByteArray.empty t213 2))).trans hx224_0
          replace hx224_0 := (cell_far (p := ⟨gb216, 2, none⟩) (by first | (rw [add_block]; exact hn224_2) | (show (Addr.add _ _).block ≠ _; rw [add_block]; exact hn224_2) | exact hn224_2) (.int .i64 0)).trans hx224_0
          replace hx224_0 := (cell_far (p := ⟨gb216, 3, none⟩) (by first | (rw [add_block]; exact hn224_3) | (show (Addr.add _ _).block ≠ _; rw [add_block]; exact hn224_3) | exact hn224_3) (.int .i64 t223)).trans hx224_0
          have hx224_9 : (((((w35.drewN nd).setCell ⟨gb216, 0, none⟩ (.string (rdOf ByteArray.empty t213 1))).setCell ⟨gb216, 1, none⟩ (.string (rdOf ByteArray.empty t213 2))).setCell ⟨gb216, 2, none⟩ (.int .i64 0)).setCell ⟨gb216, 3, none⟩ (.int .i64 t223)).cell? ad220 = some (.string (rdOf ByteArray.empty t213 0)) := hx224_0
          clear hn224_0
          clear hn224_1
          clear hn224_2
          clear hn224_3
          replace p224 := eq_true p224
          replace q224 := eq_true q224
          try go_wp2
          go_meet
          case rel => exact ⟨_, (rdOf ByteArray.empty t213 1), (rdOf ByteArray.empty t213 2), (0), (t223), H', ⟨by have := HJ2.out; first | omega | exact Nat.le_refl _⟩, ⟨by (with_reducible repeat (first | refine blk_drewN ?_ _ | refine blk_drew ?_ | refine blk_alloc ?_ _)); refine blk_far ?_ NB212_216.out _; (with_reducible repeat (first | refine blk_drewN ?_ _ | refine blk_drew ?_ | refine blk_alloc ?_ _)); refine blk_far ?_ NB212_216.out _; (with_reducible repeat (first | refine blk_drewN ?_ _ | refine blk_drew ?_ | refine blk_alloc ?_ _)); refine blk_far ?_ NB212_216.out _; (with_reducible repeat (first | refine blk_drewN ?_ _ | refine blk_drew ?_ | refine blk_alloc ?_ _)); refine blk_far ?_ NB212_216.out _; (with_reducible repeat (first | refine blk_drewN ?_ _ | refine blk_drew ?_ | refine blk_alloc ?_ _)); exact BK212.out⟩, ⟨by (with_reducible repeat (first | refine blk_drewN ?_ _ | refine blk_drew ?_ | refine blk_alloc ?_ _)); refine blk_put (cs := #[.string (rdOf ByteArray.empty t213 1), .string (rdOf ByteArray.empty t213 2), .int .i64 0, .int .i64 x217003_2]) ?_ 3 _ rfl; (with_reducible repeat (first | refine blk_drewN ?_ _ | refine blk_drew ?_ | refine blk_alloc ?_ _)); refine blk_put (cs := #[.string (rdOf ByteArray.empty t213 1), .string (rdOf ByteArray.empty t213 2), .int .i64 x217002_2, .int .i64 x217003_2]) ?_ 2 _ rfl; (with_reducible repeat (first | refine blk_drewN ?_ _ | refine blk_drew ?_ | refine blk_alloc ?_ _)); refine blk_put (cs := #[.string (rdOf ByteArray.empty t213 1), .string x217001_2, .int .i64 x217002_2, .int .i64 x217003_2]) ?_ 1 _ rfl; (with_reducible repeat (first | refine blk_drewN ?_ _ | refine blk_drew ?_ | refine blk_alloc ?_ _)); refine blk_put (cs := #[.string x217000_2, .string x217001_2, .int .i64 x217002_2, .int .i64 x217003_2]) ?_ 0 _ rfl; (with_reducible repeat (first | refine blk_drewN ?_ _ | refine blk_drew ?_ | refine blk_alloc ?_ _)); exact BK216.out⟩, ⟨by repeat (first | (with_reducible first | exact HB.out | apply below_alloc | apply pw_below_drewN | apply below_drew1 | refine below_set ?_ GE212.out | refine below_set ?_ GE216.out) | exact HB.out)⟩⟩
        ·rw [if_neg c26] at H
         exact absurd H (by simp)
       ·rw [if_neg c24] at H
        exact absurd H (by simp)
      ·rw [if_neg c23] at H
       exact absurd H (by simp)
     ·rw [if_neg c22] at H
      exact absurd H (by simp)
    ·rw [if_neg c21] at H
     have c21b0 : ((t213.length : Int) == 4) = false := beq_eq_false_iff_ne.mpr c21
     have c21b1 : ((t213.length : Int) != 4) = true := bne_iff_ne.mpr c21
     (first | rw [c21b0] | (simp only [i64_w, i32_w]; rw [c21b0]) | skip)
     have H' := Aside0.mk H
     clear H
     go_wp2
     go_meet
     case rel => exact ⟨_, (x217000_2), (x217001_2), (x217002_2), (x217003_2), H', ⟨by have := HJ2.out; first | omega | exact Nat.le_refl _⟩, ⟨by (with_reducible repeat (first | refine blk_drewN ?_ _ | refine blk_drew ?_ | refine blk_alloc ?_ _)); exact BK212.out⟩, ⟨by (with_reducible repeat (first | refine blk_drewN ?_ _ | refine blk_drew ?_ | refine blk_alloc ?_ _)); exact BK216.out⟩, ⟨by repeat (first | (with_reducible first | exact HB.out | apply below_alloc | apply pw_below_drewN | apply below_drew1 | refine below_set ?_ GE212.out | refine below_set ?_ GE216.out) | exact HB.out)⟩⟩
   case rest =>
    clear HC20
    try clear c1
    try clear c2
    try clear p2
    try clear q2
    try clear hx2
    try clear qi2
    try clear c3
    try clear c7
    try clear c10
    try clear c10b0
    try clear c10b1
    try clear c11
    try clear c11b0
    try clear c11b1
    try clear c12
    try clear c12b0
    try clear c12b1
    try clear c21
    try clear c21b0
    try clear c21b1
    try clear p21
    try clear q21
    try clear hx21
    try clear qi21
    try clear c22
    try clear c22b0
    try clear c22b1
    try clear p22
    try clear q22
    try clear hx22
    try clear qi22
    try clear c23
    try clear c23b0
    try clear c23b1
    try clear c24
    try clear c24b0
    try clear c24b1
    try clear c26
    try clear c26b0
    try clear c26b1
    try clear c27
    try clear c27b0
    try clear c27b1
    try clear c33
    try clear hcz34_0
    try clear hcz34_1
    try clear hcz34_2
    try clear hcz34_3
    try clear hcz8_0
    try clear hcz8_1
    try clear hcz8_2
    try clear hcz8_3
    try clear hfz34_0
    try clear hfz34_1
    try clear hfz34_2
    try clear hfz34_3
    try clear hfz8_0
    try clear hfz8_1
    try clear hfz8_2
    try clear hfz8_3
    try clear hx217_0
    try clear hx218_0
    try clear hx220_0
    try clear hx221_0
    try clear hx222_0
    try clear hx224_0
    try clear p2
    try clear p217
    try clear p218
    try clear p220
    try clear p221
    try clear p222
    try clear p224
    try clear q2
    try clear q217
    try clear q218
    try clear q220
    try clear q221
    try clear q222
    try clear q224
    obtain ⟨kq, x217000_19, x217001_19, x217002_19, x217003_19, HA, HJ19, BK212, BK216, HB⟩ := hcut
    cases kq with
    | zero => exact absurd HA.out (by simp [supercargoref22_One.j1])
    | succ kj19 =>
     have H := HA.out
     clear HA
     simp only [supercargoref22_One.j1] at H
     replace H := Option.bind_eq_some_iff.mp H
     obtain ⟨t225, A400, H⟩ := H
     replace H : (if t225 = true then ((supercargoref22_Line.f kj19 x217000_19 x217001_19 x217002_19 x217003_19).bind fun t226 => (if a0.size + 1 ≤ 9223372036854775807 then (some (x217000_19, x217001_19, x217002_19, x217003_19, (t226.toList == (a0 ++ (⟨#[10]⟩ : ByteArray)).toList))) else (none))) else (some (x217000_19, x217001_19, x217002_19, x217003_19, false))) = some (r1, r2, r3, r4, r5) := H
     have A40 := Aside0.mk A400
     clear A400
     by_cases c41 : t225 = true
     ·subst c41
      have H1 : ((supercargoref22_Line.f kj19 x217000_19 x217001_19 x217002_19 x217003_19).bind fun t226 => (if a0.size + 1 ≤ 9223372036854775807 then (some (x217000_19, x217001_19, x217002_19, x217003_19, (t226.toList == (a0 ++ (⟨#[10]⟩ : ByteArray)).toList))) else (none))) = some (r1, r2, r3, r4, r5) := by rw [if_pos rfl] at H; exact H
      clear H
      have H := H1
      clear H1
      replace H := Option.bind_eq_some_iff.mp H
      obtain ⟨t226, A420, H⟩ := H
      replace H : (if a0.size + 1 ≤ 9223372036854775807 then (some (x217000_19, x217001_19, x217002_19, x217003_19, (t226.toList == (a0 ++ (⟨#[10]⟩ : ByteArray)).toList))) else (none)) = some (r1, r2, r3, r4, r5) := H
      have A42 := Aside0.mk A420
      clear A420
      by_cases c43 : a0.size + 1 ≤ 9223372036854775807
      ·rw [if_pos c43] at H
       have c43b0 := eq_true c43
       have c43b1 : decide (a0.size + 1 ≤ 9223372036854775807) = true := decide_eq_true c43
       try have c43b2 : (9223372036854775807 < a0.size + 1) = False := eq_false (Nat.not_lt.2 c43)
       simp only [Option.some.injEq, Prod.mk.injEq] at H
       obtain ⟨rfl, rfl, rfl, rfl, rfl⟩ := H
       try go_wp2
       have n0_ := Aside0.mk (blk_drew BK212.out)
       have n1_ := Aside0.mk (blk_drew BK216.out)
       have n2_ := Aside0.mk (below_drew1 HB.out)
       clear BK212
       clear BK216
       clear HB
       have BK212 := n0_
       have BK216 := n1_
       have HB := n2_
       clear n0_ n1_ n2_
       refine start_ (n := 12) (S := fun w' => w'.cell? ⟨gb216, 0, none⟩ = some (.string x217000_19) ∧ w'.cell? ⟨gb216, 1, none⟩ = some (.string x217001_19) ∧ w'.cell? ⟨gb216, 2, none⟩ = some (.int .i64 x217002_19) ∧ w'.cell? ⟨gb216, 3, none⟩ = some (.int .i64 x217003_19)) (ds := []) #[false, false, false, false, false, false, false, false, false, false, false, false] (by kernel_rfl) rfl rfl ⟨(blk_cell BK216.out 0).trans rfl, (blk_cell BK216.out 1).trans rfl, (blk_cell BK216.out 2).trans rfl, (blk_cell BK216.out 3).trans rfl⟩ (fun hHeld => ?_); refine with_tabW supercargoref22_One.tab9 supercargoref22_One.bits9 (fun HT_ HW_ => ?_)
       generalize wc.drew = w44 at BK212 BK216 HB hHeld ⊢
       refine take_ (i := 0) (N := some 39) (v := ?_) (a' := ?_) #[true, false, false, false, false, false, false, false, false, false, false, false] rfl rfl (take_ofW HT_.out HW_.out (by kernel_rfl)) (fun _ _ _ h => h) (Or.inl ⟨by rfl, ?_⟩) hHeld ?_ ?_
       rotate_left
       ·rintro w' ⟨s0, s1, s2, s3⟩
        go_simp
        with_reducible rfl
       rotate_left
       ·simp only [Act.put, setIfInBounds_toArray, set_cons_zero, set_cons_succ, i64_w]
        rfl
       refine take_ (i := 1) (N := some 40) (v := ?_) (a' := ?_) #[true, true, false, false, false, false, false, false, false, false, false, false] rfl rfl (take_ofW HT_.out HW_.out (by kernel_rfl)) (fun _ _ _ h => h) (Or.inl ⟨by rfl, ?_⟩) hHeld ?_ ?_
       rotate_left
       ·rintro w' ⟨s0, s1, s2, s3⟩
        go_simp
        with_reducible rfl
       rotate_left
       ·simp only [Act.put, setIfInBounds_toArray, set_cons_zero, set_cons_succ, i64_w]
        rfl
       refine one_ (i := 2) (N := some 41) #[true, true, true, false, false, false, false, false, false, false, false, false] rfl rfl (one_of HT_.out (by kernel_rfl)) (by decide) (fun K hK => ?_)
       refine goes_ Tryd.func17 (by kernel_rfl) rfl #[.agg #[.string x217000_19, .string x217001_19, .int .i64 x217002_19, .int .i64 x217003_19]] (by rfl) rfl rfl (by (try simp only [List.map_toArray, List.map_cons, List.map_nil]); first | done | rfl | (simp only [List.length_drop, List.length_take]; rfl)) ?_
       with_reducible refine (supercargoref22_Right.calls kj19 x217000_19 x217001_19 x217002_19 x217003_19 true _ A40.out).mono ?_
       rintro e w45 ⟨rfl, hb⟩
       refine ⟨_, rfl, ?_⟩
       have n0_ := Aside0.mk (blk_below (g := gb212) (o := .cells #[.string (⟨#[]⟩ : ByteArray), .string (⟨#[]⟩ : ByteArray), .int .i64 0, .int .i64 0] 34 (0, 0)) (by (with_reducible repeat (first | refine blk_drewN ?_ _ | refine blk_drew ?_ | refine blk_alloc ?_ _)); exact BK212.out) hb)
       have n1_ := Aside0.mk (blk_below (g := gb216) (o := .cells #[.string x217000_19, .string x217001_19, .int .i64 x217002_19, .int .i64 x217003_19] 34 (0, 0)) (by (with_reducible repeat (first | refine blk_drewN ?_ _ | refine blk_drew ?_ | refine blk_alloc ?_ _)); exact BK216.out) hb)
       have n2_ := Aside0.mk (below_step (by repeat (first | (with_reducible first | exact HB.out | apply below_alloc | apply pw_below_drewN | apply below_drew1 | refine below_set ?_ GE212.out | refine below_set ?_ GE216.out) | exact HB.out)) hb)
       clear BK212
       clear BK216
       clear HB
       have BK212 := n0_
       have BK216 := n1_
       have HB := n2_
       clear n0_ n1_ n2_
       (try clear hb)
       (try clear hb2)
       (try clear hk)
       (try clear hi)
       refine hK.out _ _ ⟨(blk_cell BK216.out 0).trans rfl, (blk_cell BK216.out 1).trans rfl, (blk_cell BK216.out 2).trans rfl, (blk_cell BK216.out 3).trans rfl⟩ (fun hHeld => ?_)
       clear hK K
       refine norm_ (a' := ?_) ?_ ?_
       rotate_left
       ·show Act.put _ (some 41) _ = _
        simp only [Act.put, setIfInBounds_toArray, set_cons_zero, set_cons_succ, i64_w]
        rfl
       refine pure_ (i := 3) (N := some 42) (v := ?_) (a' := ?_) #[true, true, true, true, false, false, false, false, false, false, false, false] rfl rfl (any_of HT_.out (by kernel_rfl)) (fun _ _ _ h => h) (Or.inl ⟨by rfl, ?_⟩) ?_ ?_
       rotate_left
       ·intro w'
        go_simp
        with_reducible rfl
       rotate_left
       ·simp only [Act.put, setIfInBounds_toArray, set_cons_zero, set_cons_succ, i64_w]
        rfl
       refine pure_ (i := 6) (N := some 45) (v := ?_) (a' := ?_) #[true, true, true, true, false, false, true, false, false, false, false, false] rfl rfl (any_of HT_.out (by kernel_rfl)) (fun _ _ _ h => h) (Or.inl ⟨by rfl, ?_⟩) ?_ ?_
       rotate_left
       ·intro w'
        go_simp
        with_reducible rfl
       rotate_left
       ·simp only [Act.put, setIfInBounds_toArray, set_cons_zero, set_cons_succ, i64_w]
        rfl
       refine pure_ (i := 7) (N := some 46) (v := ?_) (a' := ?_) #[true, true, true, true, false, false, true, true, false, false, false, false] rfl rfl (any_of HT_.out (by kernel_rfl)) (fun _ _ _ h => h) (Or.inl ⟨by rfl, ?_⟩) ?_ ?_
       rotate_left
       ·intro w'
        go_simp
        with_reducible rfl
       rotate_left
       ·simp only [Act.put, setIfInBounds_toArray, set_cons_zero, set_cons_succ, i64_w]
        rfl
       refine take_ (i := 4) (N := some 43) (v := ?_) (a' := ?_) #[true, true, true, true, true, false, true, true, false, false, false, false] rfl rfl (take_ofW HT_.out HW_.out (by kernel_rfl)) (fun _ _ _ h => h) (Or.inl ⟨by rfl, ?_⟩) hHeld ?_ ?_
       rotate_left
       ·rintro w' ⟨s0, s1, s2, s3⟩
        go_simp
        with_reducible rfl
       rotate_left
       ·simp only [Act.put, setIfInBounds_toArray, set_cons_zero, set_cons_succ, i64_w]
        rfl
       refine one_ (i := 5) (N := some 44) #[true, true, true, true, true, true, true, true, false, false, false, false] rfl rfl (one_of HT_.out (by kernel_rfl)) (by decide) (fun K hK => ?_)
       refine goes_ Tryd.func18 (by kernel_rfl) rfl #[.agg #[.string x217000_19, .string x217001_19, .int .i64 x217002_19, .int .i64 x217003_19]] (by rfl) rfl rfl (by (try simp only [List.map_toArray, List.map_cons, List.map_nil]); first | done | rfl | (simp only [List.length_drop, List.length_take]; rfl)) ?_
       with_reducible refine (supercargoref22_Line.calls kj19 x217000_19 x217001_19 x217002_19 x217003_19 t226 _ A42.out).mono ?_
       rintro e w46 ⟨rfl, hb⟩
       refine ⟨_, rfl, ?_⟩
       have n0_ := Aside0.mk (blk_below (g := gb212) (o := .cells #[.string (⟨#[]⟩ : ByteArray), .string (⟨#[]⟩ : ByteArray), .int .i64 0, .int .i64 0] 34 (0, 0)) (by (with_reducible repeat (first | refine blk_drewN ?_ _ | refine blk_drew ?_ | refine blk_alloc ?_ _)); exact BK212.out) hb)
       have n1_ := Aside0.mk (blk_below (g := gb216) (o := .cells #[.string x217000_19, .string x217001_19, .int .i64 x217002_19, .int .i64 x217003_19] 34 (0, 0)) (by (with_reducible repeat (first | refine blk_drewN ?_ _ | refine blk_drew ?_ | refine blk_alloc ?_ _)); exact BK216.out) hb)
       have n2_ := Aside0.mk (below_step (by repeat (first | (with_reducible first | exact HB.out | apply below_alloc | apply pw_below_drewN | apply below_drew1 | refine below_set ?_ GE212.out | refine below_set ?_ GE216.out) | exact HB.out)) hb)
       clear BK212
       clear BK216
       clear HB
       have BK212 := n0_
       have BK216 := n1_
       have HB := n2_
       clear n0_ n1_ n2_
       (try clear hb)
       (try clear hb2)
       (try clear hk)
       (try clear hi)
       refine hK.out _ _ ⟨(blk_cell BK216.out 0).trans rfl, (blk_cell BK216.out 1).trans rfl, (blk_cell BK216.out 2).trans rfl, (blk_cell BK216.out 3).trans rfl⟩ (fun hHeld => ?_)
       clear hK K
       refine norm_ (a' := ?_) ?_ ?_
       rotate_left
       ·show Act.put _ (some 44) _ = _
        simp only [Act.put, setIfInBounds_toArray, set_cons_zero, set_cons_succ, i64_w]
        rfl
       refine pure_ (i := 8) (N := some 47) (v := ?_) (a' := ?_) #[true, true, true, true, true, true, true, true, true, false, false, false] rfl rfl (any_of HT_.out (by kernel_rfl)) (fun _ _ _ h => h) (Or.inl ⟨by rfl, ?_⟩) ?_ ?_
       rotate_left
       ·intro w'
        go_simp
        with_reducible rfl
       rotate_left
       ·simp only [Act.put, setIfInBounds_toArray, set_cons_zero, set_cons_succ, i64_w]
        rfl
       refine pure_ (i := 9) (N := some 48) (v := ?_) (a' := ?_) #[true, true, true, true, true, true, true, true, true, true, false, false] rfl rfl (any_of HT_.out (by kernel_rfl)) (fun _ _ _ h => h) (Or.inl ⟨by rfl, ?_⟩) ?_ ?_
       rotate_left
       ·intro w'
        go_simp
        with_reducible rfl
       rotate_left
       ·simp only [Act.put, setIfInBounds_toArray, set_cons_zero, set_cons_succ, i64_w]
        rfl
       refine one_ (i := 10) (N := none) #[true, true, true, true, true, true, true, true, true, true, true, false] rfl rfl (one_of HT_.out (by kernel_rfl)) (by decide) (fun K hK => ?_)
       have hs47 : w46.cell? ⟨gb212, 0, none⟩ = some (.string (⟨#[]⟩ : ByteArray)) := (blk_cell BK212.out 0).trans rfl
       have hfs47 := blk_frozen BK212.out 0
       have hns47_1 := NB216_212.out
       have hms47_1 := NB212_216.out
       have hs48 : w46.cell? ⟨gb212, 1, none⟩ = some (.string (⟨#[]⟩ : ByteArray)) := (blk_cell BK212.out 1).trans rfl
       have hfs48 := blk_frozen BK212.out 1
       have hns48_1 := NB216_212.out
       have hms48_1 := NB212_216.out
       have hs49 : w46.cell? ⟨gb212, 2, none⟩ = some (.int .i64 0) := (blk_cell BK212.out 2).trans rfl
       have hfs49 := blk_frozen BK212.out 2
       have hns49_1 := NB216_212.out
       have hms49_1 := NB212_216.out
       have hs50 : w46.cell? ⟨gb212, 3, none⟩ = some (.int .i64 0) := (blk_cell BK212.out 3).trans rfl
       have hfs50 := blk_frozen BK212.out 3
       have hns50_1 := NB216_212.out
       have hms50_1 := NB212_216.out
       refine skip_ (w1 := ?_) (by rfl) rfl ?_ ?_
       rotate_left
       ·go_simp
        rfl
       refine hK.out _ _ ⟨((cell_far (p := ⟨gb212, _, none⟩) NB216_212.out _).trans (((cell_far (p := ⟨gb212, _, none⟩) NB216_212.out _).trans (((cell_far (p := ⟨gb212, _, none⟩) NB216_212.out _).trans (((cell_far (p := ⟨gb212, _, none⟩) NB216_212.out _).trans (hHeld.1)))))))), ((cell_far (p := ⟨gb212, _, none⟩) NB216_212.out _).trans (((cell_far (p := ⟨gb212, _, none⟩) NB216_212.out _).trans (((cell_far (p := ⟨gb212, _, none⟩) NB216_212.out _).trans (((cell_far (p := ⟨gb212, _, none⟩) NB216_212.out _).trans (hHeld.2.1)))))))), ((cell_far (p := ⟨gb212, _, none⟩) NB216_212.out _).trans (((cell_far (p := ⟨gb212, _, none⟩) NB216_212.out _).trans (((cell_far (p := ⟨gb212, _, none⟩) NB216_212.out _).trans (((cell_far (p := ⟨gb212, _, none⟩) NB216_212.out _).trans (hHeld.2.2.1)))))))), ((cell_far (p := ⟨gb212, _, none⟩) NB216_212.out _).trans (((cell_far (p := ⟨gb212, _, none⟩) NB216_212.out _).trans (((cell_far (p := ⟨gb212, _, none⟩) NB216_212.out _).trans (((cell_far (p := ⟨gb212, _, none⟩) NB216_212.out _).trans (hHeld.2.2.2))))))))⟩ (fun hHeld => ?_)
       clear hK K
       refine pure_ (i := 11) (N := some 3) (v := ?_) (a' := ?_) #[true, true, true, true, true, true, true, true, true, true, true, true] rfl rfl (any_of HT_.out (by kernel_rfl)) (fun _ _ _ h => h) (Or.inl ⟨by rfl, ?_⟩) ?_ ?_
       rotate_left
       ·intro w'
        go_simp
        with_reducible rfl
       rotate_left
       ·simp only [Act.put, setIfInBounds_toArray, set_cons_zero, set_cons_succ, i64_w]
        rfl
       refine done_ (done_of HT_.out (by kernel_rfl)) ?_
       try go_wp2
       refine bodyPost_ret (results_ct rfl _ _ gb212 34 #[.string x217000_19, .string x217001_19, .int .i64 x217002_19, .int .i64 x217003_19] (0, 0) _ rfl (by (with_reducible repeat (first | refine blk_drewN ?_ _ | refine blk_drew ?_ | refine blk_alloc ?_ _)); refine blk_put (cs := #[.string x217000_19, .string x217001_19, .int .i64 x217002_19, .int .i64 0]) ?_ 3 _ rfl; (with_reducible repeat (first | refine blk_drewN ?_ _ | refine blk_drew ?_ | refine blk_alloc ?_ _)); refine blk_put (cs := #[.string x217000_19, .string x217001_19, .int .i64 0, .int .i64 0]) ?_ 2 _ rfl; (with_reducible repeat (first | refine blk_drewN ?_ _ | refine blk_drew ?_ | refine blk_alloc ?_ _)); refine blk_put (cs := #[.string x217000_19, .string (⟨#[]⟩ : ByteArray), .int .i64 0, .int .i64 0]) ?_ 1 _ rfl; (with_reducible repeat (first | refine blk_drewN ?_ _ | refine blk_drew ?_ | refine blk_alloc ?_ _)); refine blk_put (cs := #[.string (⟨#[]⟩ : ByteArray), .string (⟨#[]⟩ : ByteArray), .int .i64 0, .int .i64 0]) ?_ 0 _ rfl; (with_reducible repeat (first | refine blk_drewN ?_ _ | refine blk_drew ?_ | refine blk_alloc ?_ _)); exact BK212.out) Tryd.underlying34 rfl (by kernel_rfl)) rfl ?_
       exact ⟨by first | rfl | (simp [errW_none, errW_some] <;> rfl) | (simp [*, errW_none, errW_some] <;> rfl), by repeat (first | (with_reducible first | exact HB.out | apply below_alloc | apply pw_below_drewN | apply below_drew1 | refine below_set ?_ GE212.out | refine below_set ?_ GE216.out) | exact HB.out)⟩
      ·rw [if_neg c43] at H
       exact absurd H (by simp)
     ·replace c41 := Bool.eq_false_iff.mpr c41
      subst c41
      have H1 : (some (x217000_19, x217001_19, x217002_19, x217003_19, false)) = some (r1, r2, r3, r4, r5) := by rw [if_neg (show ¬ (false = true) by decide)] at H; exact H
      clear H
      have H := H1
      clear H1
      simp only [Option.some.injEq, Prod.mk.injEq] at H
      obtain ⟨rfl, rfl, rfl, rfl, rfl⟩ := H
      try go_wp2
      have n0_ := Aside0.mk (blk_drew BK212.out)
      have n1_ := Aside0.mk (blk_drew BK216.out)
      have n2_ := Aside0.mk (below_drew1 HB.out)
      clear BK212
      clear BK216
      clear HB
      have BK212 := n0_
      have BK216 := n1_
      have HB := n2_
      clear n0_ n1_ n2_
      refine start_ (n := 12) (S := fun w' => w'.cell? ⟨gb216, 0, none⟩ = some (.string x217000_19) ∧ w'.cell? ⟨gb216, 1, none⟩ = some (.string x217001_19) ∧ w'.cell? ⟨gb216, 2, none⟩ = some (.int .i64 x217002_19) ∧ w'.cell? ⟨gb216, 3, none⟩ = some (.int .i64 x217003_19)) (ds := []) #[false, false, false, false, false, false, false, false, false, false, false, false] (by kernel_rfl) rfl rfl ⟨(blk_cell BK216.out 0).trans rfl, (blk_cell BK216.out 1).trans rfl, (blk_cell BK216.out 2).trans rfl, (blk_cell BK216.out 3).trans rfl⟩ (fun hHeld => ?_); refine with_tabW supercargoref22_One.tab9 supercargoref22_One.bits9 (fun HT_ HW_ => ?_)
      generalize wc.drew = w51 at BK212 BK216 HB hHeld ⊢
      refine take_ (i := 0) (N := some 39) (v := ?_) (a' := ?_) #[true, false, false, false, false, false, false, false, false, false, false, false] rfl rfl (take_ofW HT_.out HW_.out (by kernel_rfl)) (fun _ _ _ h => h) (Or.inl ⟨by rfl, ?_⟩) hHeld ?_ ?_
      rotate_left
      ·rintro w' ⟨s0, s1, s2, s3⟩
       go_simp
       with_reducible rfl
      rotate_left
      ·simp only [Act.put, setIfInBounds_toArray, set_cons_zero, set_cons_succ, i64_w]
       rfl
      refine take_ (i := 1) (N := some 40) (v := ?_) (a' := ?_) #[true, true, false, false, false, false, false, false, false, false, false, false] rfl rfl (take_ofW HT_.out HW_.out (by kernel_rfl)) (fun _ _ _ h => h) (Or.inl ⟨by rfl, ?_⟩) hHeld ?_ ?_
      rotate_left
      ·rintro w' ⟨s0, s1, s2, s3⟩
       go_simp
       with_reducible rfl
      rotate_left
      ·simp only [Act.put, setIfInBounds_toArray, set_cons_zero, set_cons_succ, i64_w]
       rfl
      refine one_ (i := 2) (N := some 41) #[true, true, true, false, false, false, false, false, false, false, false, false] rfl rfl (one_of HT_.out (by kernel_rfl)) (by decide) (fun K hK => ?_)
      refine goes_ Tryd.func17 (by kernel_rfl) rfl #[.agg #[.string x217000_19, .string x217001_19, .int .i64 x217002_19, .int .i64 x217003_19]] (by rfl) rfl rfl (by (try simp only [List.map_toArray, List.map_cons, List.map_nil]); first | done | rfl | (simp only [List.length_drop, List.length_take]; rfl)) ?_
      with_reducible refine (supercargoref22_Right.calls kj19 x217000_19 x217001_19 x217002_19 x217003_19 false _ A40.out).mono ?_
      rintro e w52 ⟨rfl, hb⟩
      refine ⟨_, rfl, ?_⟩
      have n0_ := Aside0.mk (blk_below (g := gb212) (o := .cells #[.string (⟨#[]⟩ : ByteArray), .string (⟨#[]⟩ : ByteArray), .int .i64 0, .int .i64 0] 34 (0, 0)) (by (with_reducible repeat (first | refine blk_drewN ?_ _ | refine blk_drew ?_ | refine blk_alloc ?_ _)); exact BK212.out) hb)
      have n1_ := Aside0.mk (blk_below (g := gb216) (o := .cells #[.string x217000_19, .string x217001_19, .int .i64 x217002_19, .int .i64 x217003_19] 34 (0, 0)) (by (with_reducible repeat (first | refine blk_drewN ?_ _ | refine blk_drew ?_ | refine blk_alloc ?_ _)); exact BK216.out) hb)
      have n2_ := Aside0.mk (below_step (by repeat (first | (with_reducible first | exact HB.out | apply below_alloc | apply pw_below_drewN | apply below_drew1 | refine below_set ?_ GE212.out | refine below_set ?_ GE216.out) | exact HB.out)) hb)
      clear BK212
      clear BK216
      clear HB
      have BK212 := n0_
      have BK216 := n1_
      have HB := n2_
      clear n0_ n1_ n2_
      (try clear hb)
      (try clear hb2)
      (try clear hk)
      (try clear hi)
      refine hK.out _ _ ⟨(blk_cell BK216.out 0).trans rfl, (blk_cell BK216.out 1).trans rfl, (blk_cell BK216.out 2).trans rfl, (blk_cell BK216.out 3).trans rfl⟩ (fun hHeld => ?_)
      clear hK K
      refine norm_ (a' := ?_) ?_ ?_
      rotate_left
      ·show Act.put _ (some 41) _ = _
       simp only [Act.put, setIfInBounds_toArray, set_cons_zero, set_cons_succ, i64_w]
       rfl
      refine pure_ (i := 3) (N := some 42) (v := ?_) (a' := ?_) #[true, true, true, true, false, false, false, false, false, false, false, false] rfl rfl (any_of HT_.out (by kernel_rfl)) (fun _ _ _ h => h) (Or.inl ⟨by rfl, ?_⟩) ?_ ?_
      rotate_left
      ·intro w'
       go_simp
       with_reducible rfl
      rotate_left
      ·simp only [Act.put, setIfInBounds_toArray, set_cons_zero, set_cons_succ, i64_w]
       rfl
      refine pure_ (i := 4) (N := some 43) (v := undef) (a' := ?_) #[true, true, true, true, true, false, false, false, false, false, false, false] rfl rfl (any_of HT_.out (by kernel_rfl)) (fun _ _ _ h => h) (Or.inr ⟨by rfl, rfl⟩) ?_ ?_
      rotate_left
      ·simp only [Act.put, setIfInBounds_toArray, set_cons_zero, set_cons_succ, i64_w]
       rfl
      refine pure_ (i := 5) (N := some 44) (v := undef) (a' := ?_) #[true, true, true, true, true, true, false, false, false, false, false, false] rfl rfl (any_of HT_.out (by kernel_rfl)) (fun _ _ _ h => h) (Or.inr ⟨by rfl, rfl⟩) ?_ ?_
      rotate_left
      ·simp only [Act.put, setIfInBounds_toArray, set_cons_zero, set_cons_succ, i64_w]
       rfl
      refine pure_ (i := 6) (N := some 45) (v := undef) (a' := ?_) #[true, true, true, true, true, true, true, false, false, false, false, false] rfl rfl (any_of HT_.out (by kernel_rfl)) (fun _ _ _ h => h) (Or.inr ⟨by rfl, rfl⟩) ?_ ?_
      rotate_left
      ·simp only [Act.put, setIfInBounds_toArray, set_cons_zero, set_cons_succ, i64_w]
       rfl
      refine pure_ (i := 7) (N := some 46) (v := undef) (a' := ?_) #[true, true, true, true, true, true, true, true, false, false, false, false] rfl rfl (any_of HT_.out (by kernel_rfl)) (fun _ _ _ h => h) (Or.inr ⟨by rfl, rfl⟩) ?_ ?_
      rotate_left
      ·simp only [Act.put, setIfInBounds_toArray, set_cons_zero, set_cons_succ, i64_w]
       rfl
      refine pure_ (i := 8) (N := some 47) (v := undef) (a' := ?_) #[true, true, true, true, true, true, true, true, true, false, false, false] rfl rfl (any_of HT_.out (by kernel_rfl)) (fun _ _ _ h => h) (Or.inr ⟨by rfl, rfl⟩) ?_ ?_
      rotate_left
      ·simp only [Act.put, setIfInBounds_toArray, set_cons_zero, set_cons_succ, i64_w]
       rfl
      refine pure_ (i := 9) (N := some 48) (v := ?_) (a' := ?_) #[true, true, true, true, true, true, true, true, true, true, false, false] rfl rfl (any_of HT_.out (by kernel_rfl)) (fun _ _ _ h => h) (Or.inl ⟨by rfl, ?_⟩) ?_ ?_
      rotate_left
      ·intro w'
       go_simp
       with_reducible rfl
      rotate_left
      ·simp only [Act.put, setIfInBounds_toArray, set_cons_zero, set_cons_succ, i64_w]
       rfl
      refine one_ (i := 10) (N := none) #[true, true, true, true, true, true, true, true, true, true, true, false] rfl rfl (one_of HT_.out (by kernel_rfl)) (by decide) (fun K hK => ?_)
      have hs53 : w52.cell? ⟨gb212, 0, none⟩ = some (.string (⟨#[]⟩ : ByteArray)) := (blk_cell BK212.out 0).trans rfl
      have hfs53 := blk_frozen BK212.out 0
      have hns53_1 := NB216_212.out
      have hms53_1 := NB212_216.out
      have hs54 : w52.cell? ⟨gb212, 1, none⟩ = some (.string (⟨#[]⟩ : ByteArray)) := (blk_cell BK212.out 1).trans rfl
      have hfs54 := blk_frozen BK212.out 1
      have hns54_1 := NB216_212.out
      have hms54_1 := NB212_216.out
      have hs55 : w52.cell? ⟨gb212, 2, none⟩ = some (.int .i64 0) := (blk_cell BK212.out 2).trans rfl
      have hfs55 := blk_frozen BK212.out 2
      have hns55_1 := NB216_212.out
      have hms55_1 := NB212_216.out
      have hs56 : w52.cell? ⟨gb212, 3, none⟩ = some (.int .i64 0) := (blk_cell BK212.out 3).trans rfl
      have hfs56 := blk_frozen BK212.out 3
      have hns56_1 := NB216_212.out
      have hms56_1 := NB212_216.out
      refine skip_ (w1 := ?_) (by rfl) rfl ?_ ?_
      rotate_left
      ·go_simp
       rfl
      refine hK.out _ _ ⟨((cell_far (p := ⟨gb212, _, none⟩) NB216_212.out _).trans (((cell_far (p := ⟨gb212, _, none⟩) NB216_212.out _).trans (((cell_far (p := ⟨gb212, _, none⟩) NB216_212.out _).trans (((cell_far (p := ⟨gb212, _, none⟩) NB216_212.out _).trans (hHeld.1)))))))), ((cell_far (p := ⟨gb212, _, none⟩) NB216_212.out _).trans (((cell_far (p := ⟨gb212, _, none⟩) NB216_212.out _).trans (((cell_far (p := ⟨gb212, _, none⟩) NB216_212.out _).trans (((cell_far (p := ⟨gb212, _, none⟩) NB216_212.out _).trans (hHeld.2.1)))))))), ((cell_far (p := ⟨gb212, _, none⟩) NB216_212.out _).trans (((cell_far (p := ⟨gb212, _, none⟩) NB216_212.out _).trans (((cell_far (p := ⟨gb212, _, none⟩) NB216_212.out _).trans (((cell_far (p := ⟨gb212, _, none⟩) NB216_212.out _).trans (hHeld.2.2.1)))))))), ((cell_far (p := ⟨gb212, _, none⟩) NB216_212.out _).trans (((cell_far (p := ⟨gb212, _, none⟩) NB216_212.out _).trans (((cell_far (p := ⟨gb212, _, none⟩) NB216_212.out _).trans (((cell_far (p := ⟨gb212, _, none⟩) NB216_212.out _).trans (hHeld.2.2.2))))))))⟩ (fun hHeld => ?_)
      clear hK K
      refine pure_ (i := 11) (N := some 3) (v := ?_) (a' := ?_) #[true, true, true, true, true, true, true, true, true, true, true, true] rfl rfl (any_of HT_.out (by kernel_rfl)) (fun _ _ _ h => h) (Or.inl ⟨by rfl, ?_⟩) ?_ ?_
      rotate_left
      ·intro w'
       go_simp
       with_reducible rfl
      rotate_left
      ·simp only [Act.put, setIfInBounds_toArray, set_cons_zero, set_cons_succ, i64_w]
       rfl
      refine done_ (done_of HT_.out (by kernel_rfl)) ?_
      try go_wp2
      refine bodyPost_ret (results_ct rfl _ _ gb212 34 #[.string x217000_19, .string x217001_19, .int .i64 x217002_19, .int .i64 x217003_19] (0, 0) _ rfl (by (with_reducible repeat (first | refine blk_drewN ?_ _ | refine blk_drew ?_ | refine blk_alloc ?_ _)); refine blk_put (cs := #[.string x217000_19, .string x217001_19, .int .i64 x217002_19, .int .i64 0]) ?_ 3 _ rfl; (with_reducible repeat (first | refine blk_drewN ?_ _ | refine blk_drew ?_ | refine blk_alloc ?_ _)); refine blk_put (cs := #[.string x217000_19, .string x217001_19, .int .i64 0, .int .i64 0]) ?_ 2 _ rfl; (with_reducible repeat (first | refine blk_drewN ?_ _ | refine blk_drew ?_ | refine blk_alloc ?_ _)); refine blk_put (cs := #[.string x217000_19, .string (⟨#[]⟩ : ByteArray), .int .i64 0, .int .i64 0]) ?_ 1 _ rfl; (with_reducible repeat (first | refine blk_drewN ?_ _ | refine blk_drew ?_ | refine blk_alloc ?_ _)); refine blk_put (cs := #[.string (⟨#[]⟩ : ByteArray), .string (⟨#[]⟩ : ByteArray), .int .i64 0, .int .i64 0]) ?_ 0 _ rfl; (with_reducible repeat (first | refine blk_drewN ?_ _ | refine blk_drew ?_ | refine blk_alloc ?_ _)); exact BK212.out) Tryd.underlying34 rfl (by kernel_rfl)) rfl ?_
      exact ⟨by first | rfl | (simp [errW_none, errW_some] <;> rfl) | (simp [*, errW_none, errW_some] <;> rfl), by repeat (first | (with_reducible first | exact HB.out | apply below_alloc | apply pw_below_drewN | apply below_drew1 | refine below_set ?_ GE212.out | refine below_set ?_ GE216.out) | exact HB.out)⟩
end Go.Proofs.YtjmbglgchmhahaaDoor.P
