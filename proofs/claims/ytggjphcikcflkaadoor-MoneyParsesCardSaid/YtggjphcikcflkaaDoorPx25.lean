-- Written by the session's own program xprint.py, which runs the kit's print over functions given by hand.
import Derived.Test.YtggjphcikcflkaaDoorPx0
import Derived.Test.YtggjphcikcflkaaDoorPx1
import Derived.Test.YtggjphcikcflkaaDoorPx4
import Derived.Test.YtggjphcikcflkaaDoorPx12
import Derived.Test.YtggjphcikcflkaaDoorPx16
import Derived.Test.YtggjphcikcflkaaDoorPx17
import Derived.Test.YtggjphcikcflkaaDoorPx24
namespace Go.Proofs.YtggjphcikcflkaaDoor.P
open Go.RowKit Go.Proofs.YtggjphcikcflkaaDoorW.PrintWords Go.Proofs.YtggjphcikcflkaaDoorW.PrintLast Go.Proofs.YtggjphcikcflkaaDoorW.PrintMore
attribute [local go_sem] max2_int min2_int max_two min_two max_three min_three max_four min_four   -- for this text's walks alone
open List renaming setIfInBounds_toArray → sA, set_cons_zero → s0, set_cons_succ → s1
set_option linter.unusedVariables false
set_option linter.unusedSimpArgs false

attribute [local go_sem high] eqA23
/-! ### supercargoref01_Parse: function 18 -/
mutual
def supercargoref01_Parse.j0 : Nat → ByteArray → Bool → Option (ByteArray × Int × Bool)
 | 0, _, _ => none
 | k + 1, x0, x13 => if x13 = true then (some ((⟨#[]⟩ : ByteArray), 0, false)) else (if 0 ≤ 3 then (if 3 ≤ (x0.size : Int) then (supercargoref01_Parse.l0 k x0 4 (x0.extract 0 3) 0) else (none)) else (none))
def supercargoref01_Parse.l0 : Nat → ByteArray → Int → ByteArray → Int → Option (ByteArray × Int × Bool)
 | 0, _, _, _, _ => none
 | k + 1, x0, x5, x286000, x286001 => if x5 < (x0.size : Int) then (if 0 ≤ x5 then (if (bt x0 x5) ≥ 48 then (if (bt x0 x5) ≤ 57 then (supercargoref01_Parse.l0 k x0 (wrap64 (x5 + 1)) x286000 (wrap64 ((wrap64 ((wrap64 (10 * x286001)) + (wrap64 (bt x0 x5)))) - 48))) else (supercargoref01_Parse.l0 k x0 (wrap64 (x5 + 1)) x286000 x286001)) else (supercargoref01_Parse.l0 k x0 (wrap64 (x5 + 1)) x286000 x286001)) else (none)) else (if 4 < (x0.size : Int) then (if (bt x0 4) = 45 then ((supercargoref01_Text.f k x286000 (wrap64 (-x286001))).bind fun t286 => (if t286.toList = x0.toList then (some (x286000, wrap64 (-x286001), true)) else (some ((⟨#[]⟩ : ByteArray), 0, false)))) else ((supercargoref01_Text.f k x286000 x286001).bind fun t287 => (if t287.toList = x0.toList then (some (x286000, x286001, true)) else (some ((⟨#[]⟩ : ByteArray), 0, false))))) else (none))
end
def supercargoref01_Parse.f (k : Nat) (a0 : ByteArray) : Option (ByteArray × Int × Bool) := if (a0.size : Int) < 5 then (supercargoref01_Parse.j0 k a0 true) else (supercargoref01_Parse.j0 k a0 (decide ((a0.size : Int) > 24)))
theorem supercargoref01_Parse.mono_l : ∀ k, (∀ y0 y1, LeO (supercargoref01_Parse.j0 k y0 y1) (supercargoref01_Parse.j0 (k + 1) y0 y1)) ∧ (∀ y0 y1 y2 y3, LeO (supercargoref01_Parse.l0 k y0 y1 y2 y3) (supercargoref01_Parse.l0 (k + 1) y0 y1 y2 y3))
 | 0 => ⟨fun _ _ r h => by simp [supercargoref01_Parse.j0] at h, fun _ _ _ _ r h => by simp [supercargoref01_Parse.l0] at h⟩
 | k + 1 => by
  obtain ⟨ih0, ih1⟩ := supercargoref01_Parse.mono_l k
  refine ⟨?_, ?_⟩
  ·intro y0 y1
   unfold supercargoref01_Parse.j0
   repeat' first
   | (with_reducible exact ih0 _ _)
   | (with_reducible exact ih1 _ _ _ _)
   | (with_reducible exact supercargoref01_Text.mono _ _ _)
   | (with_reducible exact LeO.refl _)
   | (with_reducible exact LeO.none _)
   | (with_reducible refine LeO.ite ?_ ?_)
   | (with_reducible refine LeO.bind ?_ (fun _ => ?_))
   | exact ih0 _ _
   | exact ih1 _ _ _ _
   | exact supercargoref01_Text.mono _ _ _
   | exact LeO.none _
   | refine LeO.ite ?_ ?_
   | refine LeO.bind ?_ (fun _ => ?_)
  ·intro y0 y1 y2 y3
   unfold supercargoref01_Parse.l0
   repeat' first
   | (with_reducible exact ih0 _ _)
   | (with_reducible exact ih1 _ _ _ _)
   | (with_reducible exact supercargoref01_Text.mono _ _ _)
   | (with_reducible exact LeO.refl _)
   | (with_reducible exact LeO.none _)
   | (with_reducible refine LeO.ite ?_ ?_)
   | (with_reducible refine LeO.bind ?_ (fun _ => ?_))
   | exact ih0 _ _
   | exact ih1 _ _ _ _
   | exact supercargoref01_Text.mono _ _ _
   | exact LeO.none _
   | refine LeO.ite ?_ ?_
   | refine LeO.bind ?_ (fun _ => ?_)
theorem supercargoref01_Parse.mono : ∀ a0 k, LeO (supercargoref01_Parse.f k a0) (supercargoref01_Parse.f (k + 1) a0) := by
 intro a0 k
 obtain ⟨ih0, ih1⟩ := supercargoref01_Parse.mono_l k
 unfold supercargoref01_Parse.f
 repeat' first
   | (with_reducible exact ih0 _ _)
   | (with_reducible exact ih1 _ _ _ _)
   | (with_reducible exact supercargoref01_Text.mono _ _ _)
   | (with_reducible exact LeO.refl _)
   | (with_reducible exact LeO.none _)
   | (with_reducible refine LeO.ite ?_ ?_)
   | (with_reducible refine LeO.bind ?_ (fun _ => ?_))
   | exact ih0 _ _
   | exact ih1 _ _ _ _
   | exact supercargoref01_Text.mono _ _ _
   | exact LeO.none _
   | refine LeO.ite ?_ ?_
   | refine LeO.bind ?_ (fun _ => ?_)
def supercargoref01_Parse.T8 : Bool × List (List Nat × List Nat) := (true, [([], []), ([0], [0]), ([1], [1]), ([], []), ([], []), ([3, 4], [3, 4]), ([5], [5]), ([2, 6], [2, 6]), ([7], [7]), ([0, 1, 2, 3, 4, 5, 6, 7, 8], []), ([9, 8, 0, 1, 2, 3, 4, 5, 6, 7, 8], [8, 9])])
def supercargoref01_Parse.B8 : List Nat := [0, 1, 3, 0, 0, 24, 56, 127, 255, 511, 1023]
theorem supercargoref01_Parse.tab8 : rtab .any (opsOf Tryd.f18 8) = supercargoref01_Parse.T8 := by kernel_rfl
theorem supercargoref01_Parse.bits8 : waitsOk supercargoref01_Parse.T8.2 supercargoref01_Parse.B8 = true := by kernel_rfl
set_option maxHeartbeats 8000000 in
set_option maxRecDepth 100000 in
theorem supercargoref01_Parse.calls (k : Nat) (a0 : ByteArray) (r1 : ByteArray) (r2 : Int) (r3 : Bool) (w : World) (h : supercargoref01_Parse.f k a0 = some (r1, r2, r3)) :
  Calls Tryd.prog 18 #[.string a0] w fun e w' => e = .returned (.tuple #[.agg #[.string r1, .int .i64 r2], .bool r3]) ∧ Below w.heap.size w w' := by
 have hu23 := Tryd.underlying23
 have HB := Aside0.mk (Below.refl w.heap.size w)
 have H : (if (a0.size : Int) < 5 then (supercargoref01_Parse.j0 k a0 true) else (supercargoref01_Parse.j0 k a0 (decide ((a0.size : Int) > 24)))) = some (r1, r2, r3) := h
 clear h
 have HC2 := Aside0.mk H
 clear H
 go_enter Tryd.func18, Tryd.ntmps18
 go_upto_region 1 with (first | ((with_reducible refine gate_dst (N := 2) rfl ?_); (try (refine gate_guard (by rfl) ?_; dsimp only)); refine box_event ?hg (N := 2) ?hd (cs := #[.string (⟨#[]⟩ : ByteArray), .int .i64 0]) (t := 23) ?hr ?_; (case hd => rfl); (case hg => rfl); (case hr => first | (go_simp; done) | (go_simp; rfl)); intro gb284 hg w3 hbox hb; have n0_ := Aside0.mk (below_step (by repeat (first | (with_reducible first | exact HB.out | apply below_alloc | apply pw_below_drewN | apply below_drew1) | exact HB.out)) hb); have n1_ := Aside0.mk (hbox); have n2_ := Aside0.mk ((by rw [hg]; exact (below_size (by repeat (first | (with_reducible first | exact HB.out | apply below_alloc | apply pw_below_drewN | apply below_drew1) | exact HB.out))) : w.heap.size ≤ gb284)); have n3_ := Aside0.mk ((by rw [hg]; exact (below_size (by repeat (first | (with_reducible first | exact HB.out | apply below_alloc | apply pw_below_drewN | apply below_drew1) | exact HB.out))) : w.heap.size ≤ gb284)); clear HB; have HB := n0_; have BK284 := n1_; have GW284 := n2_; have GE284 := n3_; clear n0_ n1_ n2_ n3_; clear hb hbox hg))
 (try simp only [Act.put, sA, s0, s1])
 go_cut [13] (fun v13 wc => ∃ (kq : Nat) (x13_1 : Bool), v13 = .bool x13_1 ∧ Aside0 (supercargoref01_Parse.j0 kq a0 x13_1 = some (r1, r2, r3)) ∧ Aside0 (kq ≤ k) ∧ Aside0 (wc.heap[gb284]? = some (.cells #[.string (⟨#[]⟩ : ByteArray), .int .i64 0] 23 (0, 0))) ∧ Aside0 (Below w.heap.size w wc))
 case first =>
  have H := HC2.out
  clear HC2
  by_cases c4 : (a0.size : Int) < 5
  ·rw [if_pos c4] at H
   have c4b0 : decide ((a0.size : Int) < 5) = true := decide_eq_true c4
   have c4b1 : decide (a0.size < 5) = true := decide_eq_true (by omega)
   clear c4
   (first | rw [c4b0] | (simp only [i64_w, i32_w]; rw [c4b0]) | skip)
   have H' := Aside0.mk H
   clear H
   go_wp2
   go_meet
   case rel => exact ⟨_, (true), (by first | rfl | (simp; done) | (simp [*]; done)), H', ⟨by first | omega | exact Nat.le_refl _⟩, ⟨by (with_reducible repeat (first | refine blk_drewN ?_ _ | refine blk_drew ?_ | refine blk_alloc ?_ _)); exact BK284.out⟩, ⟨by repeat (first | (with_reducible first | exact HB.out | apply below_alloc | apply pw_below_drewN | apply below_drew1 | refine below_set ?_ GE284.out) | exact HB.out)⟩⟩
  ·rw [if_neg c4] at H
   have c4b0 : decide ((a0.size : Int) < 5) = false := decide_eq_false c4
   have c4b1 : decide (a0.size < 5) = false := decide_eq_false (by omega)
   clear c4
   (first | rw [c4b0] | (simp only [i64_w, i32_w]; rw [c4b0]) | skip)
   have H' := Aside0.mk H
   clear H
   go_wp2
   go_meet
   case rel => exact ⟨_, (decide ((a0.size : Int) > 24)), (by first | rfl | (simp; done) | (simp [*]; done)), H', ⟨by first | omega | exact Nat.le_refl _⟩, ⟨by (with_reducible repeat (first | refine blk_drewN ?_ _ | refine blk_drew ?_ | refine blk_alloc ?_ _)); exact BK284.out⟩, ⟨by repeat (first | (with_reducible first | exact HB.out | apply below_alloc | apply pw_below_drewN | apply below_drew1 | refine below_set ?_ GE284.out) | exact HB.out)⟩⟩
 case rest =>
  clear HC2
  try clear c1
  try clear p2
  try clear c4
  try clear c4b0
  try clear c4b1
  obtain ⟨kq, x13_1, rfl, HA, HJ1, BK284, HB⟩ := hcut
  cases kq with
  | zero => exact absurd HA.out (by simp [supercargoref01_Parse.j0])
  | succ kj1 =>
   have H := HA.out
   clear HA
   simp only [supercargoref01_Parse.j0] at H
   by_cases c5 : x13_1 = true
   ·subst c5
    have H1 : (some ((⟨#[]⟩ : ByteArray), 0, false)) = some (r1, r2, r3) := by rw [if_pos rfl] at H; exact H
    clear H
    have H := H1
    clear H1
    simp only [Option.some.injEq, Prod.mk.injEq] at H
    obtain ⟨rfl, rfl, rfl⟩ := H
    have hcz6_0 : wc.cell? ⟨gb284, 0, none⟩ = some (.string (⟨#[]⟩ : ByteArray)) := (blk_cell BK284.out 0).trans rfl
    have hcz6_1 : wc.cell? ⟨gb284, 1, none⟩ = some (.int .i64 0) := (blk_cell BK284.out 1).trans rfl
    have hfz6_0 := blk_frozen BK284.out 0
    have hfz6_1 := blk_frozen BK284.out 1
    go_wp2
    refine bodyPost_ret (results_ct rfl _ _ gb284 23 #[.string (⟨#[]⟩ : ByteArray), .int .i64 0] (0, 0) _ rfl (by (with_reducible repeat (first | refine blk_drewN ?_ _ | refine blk_drew ?_ | refine blk_alloc ?_ _)); refine blk_put (cs := #[.string (⟨#[]⟩ : ByteArray), .int .i64 0]) ?_ 1 _ rfl; (with_reducible repeat (first | refine blk_drewN ?_ _ | refine blk_drew ?_ | refine blk_alloc ?_ _)); refine blk_put (cs := #[.string (⟨#[]⟩ : ByteArray), .int .i64 0]) ?_ 0 _ rfl; (with_reducible repeat (first | refine blk_drewN ?_ _ | refine blk_drew ?_ | refine blk_alloc ?_ _)); exact BK284.out) Tryd.underlying23 rfl (by kernel_rfl)) rfl ?_
    exact ⟨by first | rfl | (simp [errW_none, errW_some] <;> rfl) | (simp [*, errW_none, errW_some] <;> rfl), by repeat (first | (with_reducible first | exact HB.out | apply below_alloc | apply pw_below_drewN | apply below_drew1 | refine below_set ?_ GE284.out) | exact HB.out)⟩
   ·replace c5 := Bool.eq_false_iff.mpr c5
    subst c5
    have H1 : (if 0 ≤ 3 then (if 3 ≤ (a0.size : Int) then (supercargoref01_Parse.l0 kj1 a0 4 (a0.extract 0 3) 0) else (none)) else (none)) = some (r1, r2, r3) := by rw [if_neg (show ¬ (false = true) by decide)] at H; exact H
    clear H
    have H := H1
    clear H1
    by_cases c7 : 0 ≤ 3
    ·rw [if_pos c7] at H
     have c7b0 := eq_true c7
     have c7b1 : decide (0 ≤ 3) = true := decide_eq_true c7
     clear c7
     by_cases c8 : 3 ≤ (a0.size : Int)
     ·rw [if_pos c8] at H
      have c8b0 := eq_true c8
      have c8b1 : decide (3 ≤ (a0.size : Int)) = true := decide_eq_true c8
      clear c8
      have H' := Aside0.mk H
      clear H
      go_wp2_with (first | ((with_reducible refine gate_dst (N := 4) rfl ?_); (try (refine gate_guard (by rfl) ?_; dsimp only)); refine box_event ?hg (N := 4) ?hd (cs := #[.string (⟨#[]⟩ : ByteArray), .int .i64 0]) (t := 23) ?hr ?_; (case hd => rfl); (case hg => rfl); (case hr => first | (go_simp; done) | (go_simp; rfl)); intro gb285 hg w9 hbox hb; have n0_ := Aside0.mk (blk_below (g := gb284) (o := .cells #[.string (⟨#[]⟩ : ByteArray), .int .i64 0] 23 (0, 0)) (by (with_reducible repeat (first | refine blk_drewN ?_ _ | refine blk_drew ?_ | refine blk_alloc ?_ _)); exact BK284.out) hb); have n1_ := Aside0.mk (below_step (by repeat (first | (with_reducible first | exact HB.out | apply below_alloc | apply pw_below_drewN | apply below_drew1 | refine below_set ?_ GE284.out) | exact HB.out)) hb); have n2_ := Aside0.mk (hbox); have n3_ := Aside0.mk ((by rw [hg]; exact (below_size (by repeat (first | (with_reducible first | exact HB.out | apply below_alloc | apply pw_below_drewN | apply below_drew1 | refine below_set ?_ GE284.out) | exact HB.out))) : w.heap.size ≤ gb285)); have n4_ := Aside0.mk ((by rw [hg]; exact (below_size (by repeat (first | (with_reducible first | exact HB.out | apply below_alloc | apply pw_below_drewN | apply below_drew1 | refine below_set ?_ GE284.out) | exact HB.out))) : w.heap.size ≤ gb285)); have n5_ := Aside0.mk ((by rw [hg]; exact Nat.ne_of_lt (blk_lt (g := gb284) (o := .cells #[.string (⟨#[]⟩ : ByteArray), .int .i64 0] 23 (0, 0)) (by (with_reducible repeat (first | refine blk_drewN ?_ _ | refine blk_drew ?_ | refine blk_alloc ?_ _)); exact BK284.out)) : gb284 ≠ gb285)); have n6_ := Aside0.mk ((by rw [hg]; exact Nat.ne_of_gt (blk_lt (g := gb284) (o := .cells #[.string (⟨#[]⟩ : ByteArray), .int .i64 0] 23 (0, 0)) (by (with_reducible repeat (first | refine blk_drewN ?_ _ | refine blk_drew ?_ | refine blk_alloc ?_ _)); exact BK284.out)) : gb285 ≠ gb284)); clear BK284; clear HB; have BK284 := n0_; have HB := n1_; have BK285 := n2_; have GW285 := n3_; have GE285 := n4_; have NB284_285 := n5_; have NB285_284 := n6_; clear n0_ n1_ n2_ n3_ n4_ n5_ n6_; clear hb hbox hg; have hnb10 := NB285_284.out; have hnc10 := NB284_285.out; have hcz11_0 : w9.cell? ⟨gb285, 0, none⟩ = some (.string (⟨#[]⟩ : ByteArray)) := (blk_cell BK285.out 0).trans rfl; have hcz11_1 : w9.cell? ⟨gb285, 1, none⟩ = some (.int .i64 0) := (blk_cell BK285.out 1).trans rfl; have hfz11_0 := blk_frozen BK285.out 0; have hfz11_1 := blk_frozen BK285.out 1))
      go_loopg [5] kj1 (fun kq v5 w' => ∃ (x5_2 : Int) (x286001_2 : Int), v5 = .int .i64 x5_2 ∧ Aside0 (supercargoref01_Parse.l0 kq a0 x5_2 (a0.extract 0 3) x286001_2 = some (r1, r2, r3)) ∧ Aside0 (kq ≤ kj1) ∧ Aside0 (w'.heap[gb284]? = some (.cells #[.string (⟨#[]⟩ : ByteArray), .int .i64 0] 23 (0, 0))) ∧ Aside0 (w'.heap[gb285]? = some (.cells #[.string (a0.extract 0 3), .int .i64 x286001_2] 23 (0, 0))) ∧ Aside0 (Below w.heap.size w w'))
      case atStart => exact ⟨(4), (0), (by first | rfl | (simp; done) | (simp [*]; done)), H', ⟨Nat.le_refl _⟩, ⟨by (with_reducible repeat (first | refine blk_drewN ?_ _ | refine blk_drew ?_ | refine blk_alloc ?_ _)); refine blk_far ?_ NB284_285.out _; (with_reducible repeat (first | refine blk_drewN ?_ _ | refine blk_drew ?_ | refine blk_alloc ?_ _)); refine blk_far ?_ NB284_285.out _; (with_reducible repeat (first | refine blk_drewN ?_ _ | refine blk_drew ?_ | refine blk_alloc ?_ _)); exact BK284.out⟩, ⟨by (with_reducible repeat (first | refine blk_drewN ?_ _ | refine blk_drew ?_ | refine blk_alloc ?_ _)); refine blk_put (cs := #[.string (a0.extract 0 3), .int .i64 0]) ?_ 1 _ rfl; (with_reducible repeat (first | refine blk_drewN ?_ _ | refine blk_drew ?_ | refine blk_alloc ?_ _)); refine blk_put (cs := #[.string (⟨#[]⟩ : ByteArray), .int .i64 0]) ?_ 0 _ rfl; (with_reducible repeat (first | refine blk_drewN ?_ _ | refine blk_drew ?_ | refine blk_alloc ?_ _)); exact BK285.out⟩, ⟨by repeat (first | (with_reducible first | exact HB.out | apply below_alloc | apply pw_below_drewN | apply below_drew1 | refine below_set ?_ GE284.out | refine below_set ?_ GE285.out) | exact HB.out)⟩⟩
      case round =>
       clear H'
       try clear c1
       try clear p2
       try clear c4
       try clear c4b0
       try clear c4b1
       try clear c5
       try clear c7
       try clear c7b0
       try clear c7b1
       try clear c8
       try clear c8b0
       try clear c8b1
       try clear c10
       try clear hcz11_0
       try clear hcz11_1
       try clear hcz6_0
       try clear hcz6_1
       try clear hfz11_0
       try clear hfz11_1
       try clear hfz6_0
       try clear hfz6_1
       try clear p2
       obtain ⟨x5_2, x286001_2, rfl, HA, HK2, BK284, BK285, HB⟩ := hrel
       cases gk with
       | zero => exact absurd HA.out (by simp [supercargoref01_Parse.l0])
       | succ k2 =>
        have H := HA.out
        clear HA
        simp only [supercargoref01_Parse.l0] at H
        by_cases c12 : x5_2 < (a0.size : Int)
        ·rw [if_pos c12] at H
         have c12b0 : decide (x5_2 < (a0.size : Int)) = true := decide_eq_true c12
         clear c12
         by_cases c13 : 0 ≤ x5_2
         ·rw [if_pos c13] at H
          have c13b0 : decide (0 ≤ x5_2) = true := decide_eq_true c13
          clear c13
          by_cases c15 : (bt a0 x5_2) ≥ 48
          ·rw [if_pos c15] at H
           have c15b0 : decide (48 ≤ (bt a0 x5_2)) = true := decide_eq_true c15
           clear c15
           by_cases c17 : (bt a0 x5_2) ≤ 57
           ·rw [if_pos c17] at H
            have c17b0 : decide ((bt a0 x5_2) ≤ 57) = true := decide_eq_true c17
            clear c17
            have H' := Aside0.mk H
            clear H
            have p14 : 0 ≤ (x5_2 : Int) := of_decide_eq_true (by first | (with_reducible assumption) | assumption)
            have q14 : x5_2 < (a0.size : Int) := of_decide_eq_true (by first | (with_reducible assumption) | assumption)
            have hx14 := bt_at a0 x5_2
            replace p14 := eq_true p14
            replace q14 := eq_true q14
            have p16 : 0 ≤ (x5_2 : Int) := of_decide_eq_true (by first | (with_reducible assumption) | assumption)
            have q16 : x5_2 < (a0.size : Int) := of_decide_eq_true (by first | (with_reducible assumption) | assumption)
            have hx16 := bt_at a0 x5_2
            replace p16 := eq_true p16
            replace q16 := eq_true q16
            try go_wp2
            have n0_ := Aside0.mk (blk_drew BK284.out)
            have n1_ := Aside0.mk (blk_drew BK285.out)
            have n2_ := Aside0.mk (below_drew1 HB.out)
            clear BK284
            clear BK285
            clear HB
            have BK284 := n0_
            have BK285 := n1_
            have HB := n2_
            clear n0_ n1_ n2_
            have p18 : 0 ≤ (x5_2 : Int) := of_decide_eq_true (by first | (with_reducible assumption) | assumption)
            have q18 : x5_2 < (a0.size : Int) := of_decide_eq_true (by first | (with_reducible assumption) | assumption)
            have hx18 := bt_at a0 x5_2
            replace p18 := eq_true p18
            replace q18 := eq_true q18
            refine start_ (n := 11) (S := fun w' => w'.cell? ⟨gb285, 0, none⟩ = some (.string (a0.extract 0 3)) ∧ w'.cell? ⟨gb285, 1, none⟩ = some (.int .i64 x286001_2)) (ds := [10]) #[false, false, false, false, false, false, false, false, false, false, false] (by kernel_rfl) rfl rfl ⟨(blk_cell BK285.out 0).trans rfl, (blk_cell BK285.out 1).trans rfl⟩ (fun hHeld => ?_); refine with_tabW supercargoref01_Parse.tab8 supercargoref01_Parse.bits8 (fun HT_ HW_ => ?_)
            generalize wr.drew = w19 at BK284 BK285 HB hHeld ⊢
            refine pure_ (i := 0) (N := some 34) (v := ?_) (a' := ?_) #[true, false, false, false, false, false, false, false, false, false, false] rfl rfl (any_of HT_.out (by kernel_rfl)) (fun _ _ _ h => h) (Or.inl ⟨by rfl, ?_⟩) ?_ ?_
            rotate_left
            ·intro w'
             go_simp
             with_reducible rfl
            rotate_left
            ·simp only [Act.put, sA, s0, s1, i64_w]
             rfl
            refine pure_ (i := 3) (N := some 37) (v := ?_) (a' := ?_) #[true, false, false, true, false, false, false, false, false, false, false] rfl rfl (any_of HT_.out (by kernel_rfl)) (fun _ _ _ h => h) (Or.inl ⟨by rfl, ?_⟩) ?_ ?_
            rotate_left
            ·intro w'
             go_simp
             with_reducible rfl
            rotate_left
            ·simp only [Act.put, sA, s0, s1, i64_w]
             rfl
            refine pure_ (i := 4) (N := some 38) (v := ?_) (a' := ?_) #[true, false, false, true, true, false, false, false, false, false, false] rfl rfl (any_of HT_.out (by kernel_rfl)) (fun _ _ _ h => h) (Or.inl ⟨by rfl, ?_⟩) ?_ ?_
            rotate_left
            ·intro w'
             go_simp
             with_reducible rfl
            rotate_left
            ·simp only [Act.put, sA, s0, s1, i64_w]
             rfl
            refine take_ (i := 1) (N := some 35) (v := ?_) (a' := ?_) #[true, true, false, true, true, false, false, false, false, false, false] rfl rfl (take_ofW HT_.out HW_.out (by kernel_rfl)) (fun _ _ _ h => h) (Or.inl ⟨by rfl, ?_⟩) hHeld ?_ ?_
            rotate_left
            ·rintro w' ⟨s0, s1⟩
             go_simp
             with_reducible rfl
            rotate_left
            ·simp only [Act.put, sA, s0, s1, i64_w]
             rfl
            refine pure_ (i := 2) (N := some 36) (v := ?_) (a' := ?_) #[true, true, true, true, true, false, false, false, false, false, false] rfl rfl (any_of HT_.out (by kernel_rfl)) (fun _ _ _ h => h) (Or.inl ⟨by rfl, ?_⟩) ?_ ?_
            rotate_left
            ·intro w'
             go_simp
             with_reducible rfl
            rotate_left
            ·simp only [Act.put, sA, s0, s1, i64_w]
             rfl
            refine take_ (i := 5) (N := some 39) (v := ?_) (a' := ?_) #[true, true, true, true, true, true, false, false, false, false, false] rfl rfl (take_ofW HT_.out HW_.out (by kernel_rfl)) (fun _ _ _ h => h) (Or.inl ⟨by rfl, ?_⟩) hHeld ?_ ?_
            rotate_left
            ·rintro w' ⟨s0, s1⟩
             go_simp
             with_reducible rfl
            rotate_left
            ·simp only [Act.put, sA, s0, s1, i64_w]
             rfl
            refine pure_ (i := 6) (N := some 40) (v := ?_) (a' := ?_) #[true, true, true, true, true, true, true, false, false, false, false] rfl rfl (any_of HT_.out (by kernel_rfl)) (fun _ _ _ h => h) (Or.inl ⟨by rfl, ?_⟩) ?_ ?_
            rotate_left
            ·intro w'
             go_simp
             with_reducible rfl
            rotate_left
            ·simp only [Act.put, sA, s0, s1, i64_w]
             rfl
            refine pure_ (i := 7) (N := some 41) (v := ?_) (a' := ?_) #[true, true, true, true, true, true, true, true, false, false, false] rfl rfl (any_of HT_.out (by kernel_rfl)) (fun _ _ _ h => h) (Or.inl ⟨by rfl, ?_⟩) ?_ ?_
            rotate_left
            ·intro w'
             go_simp
             with_reducible rfl
            rotate_left
            ·simp only [Act.put, sA, s0, s1, i64_w]
             rfl
            refine pure_ (i := 8) (N := some 42) (v := ?_) (a' := ?_) #[true, true, true, true, true, true, true, true, true, false, false] rfl rfl (any_of HT_.out (by kernel_rfl)) (fun _ _ _ h => h) (Or.inl ⟨by rfl, ?_⟩) ?_ ?_
            rotate_left
            ·intro w'
             go_simp
             with_reducible rfl
            rotate_left
            ·simp only [Act.put, sA, s0, s1, i64_w]
             rfl
            refine pure_ (i := 9) (N := some 43) (v := ?_) (a' := ?_) #[true, true, true, true, true, true, true, true, true, true, false] rfl rfl (any_of HT_.out (by kernel_rfl)) (fun _ _ _ h => h) (Or.inl ⟨by rfl, ?_⟩) ?_ ?_
            rotate_left
            ·intro w'
             go_simp
             with_reducible rfl
            rotate_left
            ·simp only [Act.put, sA, s0, s1, i64_w]
             rfl
            refine last_ (i := 10) (N := none) #[true, true, true, true, true, true, true, true, true, true, true] rfl rfl (one_of HT_.out (by kernel_rfl)) (by decide) (fun K hK => ?_)
            have hs20 : w19.cell? ⟨gb285, 1, none⟩ = some (.int .i64 x286001_2) := (blk_cell BK285.out 1).trans rfl
            have hfs20 := blk_frozen BK285.out 1
            have hns20_0 := NB284_285.out
            have hms20_0 := NB285_284.out
            refine skip_ (w1 := ?_) (by rfl) rfl ?_ ?_
            rotate_left
            ·go_simp
             rfl
            refine hK.out _ _ ?_
            clear hK K
            refine done_ (done_of HT_.out (by kernel_rfl)) ?_
            try go_wp2
            go_roundg k2
            case measure => have := HJ1.out; have := HK2.out; omega
            case rel => exact ⟨(wrap64 (x5_2 + 1)), (wrap64 ((wrap64 ((wrap64 (10 * x286001_2)) + (wrap64 (bt a0 x5_2)))) - 48)), (by first | rfl | (simp; done) | (simp [*]; done)), H', ⟨by have := HJ1.out; have := HK2.out; omega⟩, ⟨by (with_reducible repeat (first | refine blk_drewN ?_ _ | refine blk_drew ?_ | refine blk_alloc ?_ _)); refine blk_far ?_ NB284_285.out _; (with_reducible repeat (first | refine blk_drewN ?_ _ | refine blk_drew ?_ | refine blk_alloc ?_ _)); exact BK284.out⟩, ⟨by (with_reducible repeat (first | refine blk_drewN ?_ _ | refine blk_drew ?_ | refine blk_alloc ?_ _)); refine blk_put (cs := #[.string (a0.extract 0 3), .int .i64 x286001_2]) ?_ 1 _ rfl; (with_reducible repeat (first | refine blk_drewN ?_ _ | refine blk_drew ?_ | refine blk_alloc ?_ _)); exact BK285.out⟩, ⟨by repeat (first | (with_reducible first | exact HB.out | apply below_alloc | apply pw_below_drewN | apply below_drew1 | refine below_set ?_ GE284.out | refine below_set ?_ GE285.out) | exact HB.out)⟩⟩
           ·rw [if_neg c17] at H
            have c17b0 : decide ((bt a0 x5_2) ≤ 57) = false := decide_eq_false c17
            clear c17
            have H' := Aside0.mk H
            clear H
            have p14 : 0 ≤ (x5_2 : Int) := of_decide_eq_true (by first | (with_reducible assumption) | assumption)
            have q14 : x5_2 < (a0.size : Int) := of_decide_eq_true (by first | (with_reducible assumption) | assumption)
            have hx14 := bt_at a0 x5_2
            replace p14 := eq_true p14
            replace q14 := eq_true q14
            have p16 : 0 ≤ (x5_2 : Int) := of_decide_eq_true (by first | (with_reducible assumption) | assumption)
            have q16 : x5_2 < (a0.size : Int) := of_decide_eq_true (by first | (with_reducible assumption) | assumption)
            have hx16 := bt_at a0 x5_2
            replace p16 := eq_true p16
            replace q16 := eq_true q16
            go_wp2
            go_roundg k2
            case measure => have := HJ1.out; have := HK2.out; omega
            case rel => exact ⟨(wrap64 (x5_2 + 1)), (x286001_2), (by first | rfl | (simp; done) | (simp [*]; done)), H', ⟨by have := HJ1.out; have := HK2.out; omega⟩, ⟨by (with_reducible repeat (first | refine blk_drewN ?_ _ | refine blk_drew ?_ | refine blk_alloc ?_ _)); exact BK284.out⟩, ⟨by (with_reducible repeat (first | refine blk_drewN ?_ _ | refine blk_drew ?_ | refine blk_alloc ?_ _)); exact BK285.out⟩, ⟨by repeat (first | (with_reducible first | exact HB.out | apply below_alloc | apply pw_below_drewN | apply below_drew1 | refine below_set ?_ GE284.out | refine below_set ?_ GE285.out) | exact HB.out)⟩⟩
          ·rw [if_neg c15] at H
           have c15b0 : decide (48 ≤ (bt a0 x5_2)) = false := decide_eq_false c15
           clear c15
           have H' := Aside0.mk H
           clear H
           have p14 : 0 ≤ (x5_2 : Int) := of_decide_eq_true (by first | (with_reducible assumption) | assumption)
           have q14 : x5_2 < (a0.size : Int) := of_decide_eq_true (by first | (with_reducible assumption) | assumption)
           have hx14 := bt_at a0 x5_2
           replace p14 := eq_true p14
           replace q14 := eq_true q14
           go_wp2
           go_roundg k2
           case measure => have := HJ1.out; have := HK2.out; omega
           case rel => exact ⟨(wrap64 (x5_2 + 1)), (x286001_2), (by first | rfl | (simp; done) | (simp [*]; done)), H', ⟨by have := HJ1.out; have := HK2.out; omega⟩, ⟨by (with_reducible repeat (first | refine blk_drewN ?_ _ | refine blk_drew ?_ | refine blk_alloc ?_ _)); exact BK284.out⟩, ⟨by (with_reducible repeat (first | refine blk_drewN ?_ _ | refine blk_drew ?_ | refine blk_alloc ?_ _)); exact BK285.out⟩, ⟨by repeat (first | (with_reducible first | exact HB.out | apply below_alloc | apply pw_below_drewN | apply below_drew1 | refine below_set ?_ GE284.out | refine below_set ?_ GE285.out) | exact HB.out)⟩⟩
         ·rw [if_neg c13] at H
          exact absurd H (by simp)
        ·rw [if_neg c12] at H
         have c12b0 : decide (x5_2 < (a0.size : Int)) = false := decide_eq_false c12
         clear c12
         by_cases c21 : 4 < (a0.size : Int)
         ·rw [if_pos c21] at H
          have c21b0 : decide (4 < (a0.size : Int)) = true := decide_eq_true c21
          have c21b1 : decide (4 < a0.size) = true := decide_eq_true (by omega)
          clear c21
          by_cases c23 : (bt a0 4) = 45
          ·rw [if_pos c23] at H
           have c23b0 : ((bt a0 4) == 45) = true := beq_iff_eq.mpr c23
           have c23b1 : ((bt a0 4) != 45) = false := bne_eq_false_iff_eq.mpr c23
           clear c23
           replace H := Option.bind_eq_some_iff.mp H
           obtain ⟨t286, A240, H⟩ := H
           replace H : (if t286.toList = a0.toList then (some ((a0.extract 0 3), wrap64 (-x286001_2), true)) else (some ((⟨#[]⟩ : ByteArray), 0, false))) = some (r1, r2, r3) := H
           have A24 := Aside0.mk A240
           clear A240
           by_cases c25 : t286.toList = a0.toList
           ·rw [if_pos c25] at H
            have c25b0 : (t286.toList == a0.toList) = true := beq_iff_eq.mpr c25
            have c25b1 : (t286.toList != a0.toList) = false := bne_eq_false_iff_eq.mpr c25
            clear c25
            simp only [Option.some.injEq, Prod.mk.injEq] at H
            obtain ⟨rfl, rfl, rfl⟩ := H
            have p22 : 0 ≤ (4 : Int) := (by omega)
            have q22 : 4 < a0.size := (by have : (4 : Int) < (a0.size : Int) := of_decide_eq_true (by first | (with_reducible assumption) | assumption); omega)
            have hx22 : ∀ h : 4 < a0.size, ((a0[4]'h).toNat : Int) = bt a0 4 := bt_at a0 4
            clear p22
            have qi22 : (4 < (a0.size : Int)) = True := eq_true (of_decide_eq_true (by first | (with_reducible assumption) | assumption))
            replace q22 := eq_true q22
            have hnb26 := NB285_284.out
            have hnc26 := NB284_285.out
            have hcz27_0 : wr.cell? ⟨gb285, 0, none⟩ = some (.string (a0.extract 0 3)) := (blk_cell BK285.out 0).trans rfl
            have hcz27_1 : wr.cell? ⟨gb285, 1, none⟩ = some (.int .i64 x286001_2) := (blk_cell BK285.out 1).trans rfl
            have hfz27_0 := blk_frozen BK285.out 0
            have hfz27_1 := blk_frozen BK285.out 1
            go_wp2_with (first | ((with_reducible refine gate_callee (f := 17) rfl ?_); refine goesL_ (some 52) rfl rfl Tryd.func17 (by kernel_rfl) rfl #[.agg #[.string (a0.extract 0 3), .int .i64 (wrap64 (-x286001_2))]] rfl (by (try simp only [List.map_toArray, List.map_cons, List.map_nil]); first | done | rfl | (simp only [List.length_drop, List.length_take]; rfl)) ?_; (with_reducible refine (supercargoref01_Text.calls k2 (a0.extract 0 3) (wrap64 (-x286001_2)) t286 _ A24.out).mono ?_); rintro e w28 ⟨rfl, hb⟩; refine ⟨_, rfl, ?_⟩; have n0_ := Aside0.mk (blk_below (g := gb284) (o := .cells #[.string (⟨#[]⟩ : ByteArray), .int .i64 0] 23 (0, 0)) (by (with_reducible repeat (first | refine blk_drewN ?_ _ | refine blk_drew ?_ | refine blk_alloc ?_ _)); refine blk_far ?_ NB284_285.out _; (with_reducible repeat (first | refine blk_drewN ?_ _ | refine blk_drew ?_ | refine blk_alloc ?_ _)); exact BK284.out) hb); have n1_ := Aside0.mk (blk_below (g := gb285) (o := .cells #[.string (a0.extract 0 3), .int .i64 (wrap64 (-x286001_2))] 23 (0, 0)) (by (with_reducible repeat (first | refine blk_drewN ?_ _ | refine blk_drew ?_ | refine blk_alloc ?_ _)); refine blk_put (cs := #[.string (a0.extract 0 3), .int .i64 x286001_2]) ?_ 1 _ rfl; (with_reducible repeat (first | refine blk_drewN ?_ _ | refine blk_drew ?_ | refine blk_alloc ?_ _)); exact BK285.out) hb); have n2_ := Aside0.mk (below_step (by repeat (first | (with_reducible first | exact HB.out | apply below_alloc | apply pw_below_drewN | apply below_drew1 | refine below_set ?_ GE284.out | refine below_set ?_ GE285.out) | exact HB.out)) hb); clear BK284; clear BK285; clear HB; have BK284 := n0_; have BK285 := n1_; have HB := n2_; clear n0_ n1_ n2_; (try clear hb); (try clear hb2); (try clear hk); (try clear hi); have hcz29_0 : w28.cell? ⟨gb285, 0, none⟩ = some (.string (a0.extract 0 3)) := (blk_cell BK285.out 0).trans rfl; have hcz29_1 : w28.cell? ⟨gb285, 1, none⟩ = some (.int .i64 (wrap64 (-x286001_2))) := (blk_cell BK285.out 1).trans rfl; have hfz29_0 := blk_frozen BK285.out 0; have hfz29_1 := blk_frozen BK285.out 1; have hcz30_0 : w28.cell? ⟨gb284, 0, none⟩ = some (.string (⟨#[]⟩ : ByteArray)) := (blk_cell BK284.out 0).trans rfl; have hcz30_1 : w28.cell? ⟨gb284, 1, none⟩ = some (.int .i64 0) := (blk_cell BK284.out 1).trans rfl; have hfz30_0 := blk_frozen BK284.out 0; have hfz30_1 := blk_frozen BK284.out 1))
            refine bodyPost_ret (results_ct rfl _ _ gb284 23 #[.string (a0.extract 0 3), .int .i64 (wrap64 (-x286001_2))] (0, 0) _ rfl (by (with_reducible repeat (first | refine blk_drewN ?_ _ | refine blk_drew ?_ | refine blk_alloc ?_ _)); refine blk_put (cs := #[.string (a0.extract 0 3), .int .i64 0]) ?_ 1 _ rfl; (with_reducible repeat (first | refine blk_drewN ?_ _ | refine blk_drew ?_ | refine blk_alloc ?_ _)); refine blk_put (cs := #[.string (⟨#[]⟩ : ByteArray), .int .i64 0]) ?_ 0 _ rfl; (with_reducible repeat (first | refine blk_drewN ?_ _ | refine blk_drew ?_ | refine blk_alloc ?_ _)); exact BK284.out) Tryd.underlying23 rfl (by kernel_rfl)) rfl ?_
            exact ⟨by first | rfl | (simp [errW_none, errW_some] <;> rfl) | (simp [*, errW_none, errW_some] <;> rfl), by repeat (first | (with_reducible first | exact HB.out | apply below_alloc | apply pw_below_drewN | apply below_drew1 | refine below_set ?_ GE284.out | refine below_set ?_ GE285.out) | exact HB.out)⟩
           ·rw [if_neg c25] at H
            have c25b0 : (t286.toList == a0.toList) = false := beq_eq_false_iff_ne.mpr c25
            have c25b1 : (t286.toList != a0.toList) = true := bne_iff_ne.mpr c25
            simp only [Option.some.injEq, Prod.mk.injEq] at H
            obtain ⟨rfl, rfl, rfl⟩ := H
            have p22 : 0 ≤ (4 : Int) := (by omega)
            have q22 : 4 < a0.size := (by have : (4 : Int) < (a0.size : Int) := of_decide_eq_true (by first | (with_reducible assumption) | assumption); omega)
            have hx22 : ∀ h : 4 < a0.size, ((a0[4]'h).toNat : Int) = bt a0 4 := bt_at a0 4
            clear p22
            have qi22 : (4 < (a0.size : Int)) = True := eq_true (of_decide_eq_true (by first | (with_reducible assumption) | assumption))
            replace q22 := eq_true q22
            have hnb31 := NB285_284.out
            have hnc31 := NB284_285.out
            have hcz32_0 : wr.cell? ⟨gb285, 0, none⟩ = some (.string (a0.extract 0 3)) := (blk_cell BK285.out 0).trans rfl
            have hcz32_1 : wr.cell? ⟨gb285, 1, none⟩ = some (.int .i64 x286001_2) := (blk_cell BK285.out 1).trans rfl
            have hfz32_0 := blk_frozen BK285.out 0
            have hfz32_1 := blk_frozen BK285.out 1
            go_wp2_with (first | ((with_reducible refine gate_callee (f := 17) rfl ?_); refine goesL_ (some 52) rfl rfl Tryd.func17 (by kernel_rfl) rfl #[.agg #[.string (a0.extract 0 3), .int .i64 (wrap64 (-x286001_2))]] rfl (by (try simp only [List.map_toArray, List.map_cons, List.map_nil]); first | done | rfl | (simp only [List.length_drop, List.length_take]; rfl)) ?_; (with_reducible refine (supercargoref01_Text.calls k2 (a0.extract 0 3) (wrap64 (-x286001_2)) t286 _ A24.out).mono ?_); rintro e w33 ⟨rfl, hb⟩; refine ⟨_, rfl, ?_⟩; have n0_ := Aside0.mk (blk_below (g := gb284) (o := .cells #[.string (⟨#[]⟩ : ByteArray), .int .i64 0] 23 (0, 0)) (by (with_reducible repeat (first | refine blk_drewN ?_ _ | refine blk_drew ?_ | refine blk_alloc ?_ _)); refine blk_far ?_ NB284_285.out _; (with_reducible repeat (first | refine blk_drewN ?_ _ | refine blk_drew ?_ | refine blk_alloc ?_ _)); exact BK284.out) hb); have n1_ := Aside0.mk (blk_below (g := gb285) (o := .cells #[.string (a0.extract 0 3), .int .i64 (wrap64 (-x286001_2))] 23 (0, 0)) (by (with_reducible repeat (first | refine blk_drewN ?_ _ | refine blk_drew ?_ | refine blk_alloc ?_ _)); refine blk_put (cs := #[.string (a0.extract 0 3), .int .i64 x286001_2]) ?_ 1 _ rfl; (with_reducible repeat (first | refine blk_drewN ?_ _ | refine blk_drew ?_ | refine blk_alloc ?_ _)); exact BK285.out) hb); have n2_ := Aside0.mk (below_step (by repeat (first | (with_reducible first | exact HB.out | apply below_alloc | apply pw_below_drewN | apply below_drew1 | refine below_set ?_ GE284.out | refine below_set ?_ GE285.out) | exact HB.out)) hb); clear BK284; clear BK285; clear HB; have BK284 := n0_; have BK285 := n1_; have HB := n2_; clear n0_ n1_ n2_; (try clear hb); (try clear hb2); (try clear hk); (try clear hi); have hcz34_0 : w33.cell? ⟨gb284, 0, none⟩ = some (.string (⟨#[]⟩ : ByteArray)) := (blk_cell BK284.out 0).trans rfl; have hcz34_1 : w33.cell? ⟨gb284, 1, none⟩ = some (.int .i64 0) := (blk_cell BK284.out 1).trans rfl; have hfz34_0 := blk_frozen BK284.out 0; have hfz34_1 := blk_frozen BK284.out 1))
            refine bodyPost_ret (results_ct rfl _ _ gb284 23 #[.string (⟨#[]⟩ : ByteArray), .int .i64 0] (0, 0) _ rfl (by (with_reducible repeat (first | refine blk_drewN ?_ _ | refine blk_drew ?_ | refine blk_alloc ?_ _)); refine blk_put (cs := #[.string (⟨#[]⟩ : ByteArray), .int .i64 0]) ?_ 1 _ rfl; (with_reducible repeat (first | refine blk_drewN ?_ _ | refine blk_drew ?_ | refine blk_alloc ?_ _)); refine blk_put (cs := #[.string (⟨#[]⟩ : ByteArray), .int .i64 0]) ?_ 0 _ rfl; (with_reducible repeat (first | refine blk_drewN ?_ _ | refine blk_drew ?_ | refine blk_alloc ?_ _)); exact BK284.out) Tryd.underlying23 rfl (by kernel_rfl)) rfl ?_
            exact ⟨by first | rfl | (simp [errW_none, errW_some] <;> rfl) | (simp [*, errW_none, errW_some] <;> rfl), by repeat (first | (with_reducible first | exact HB.out | apply below_alloc | apply pw_below_drewN | apply below_drew1 | refine below_set ?_ GE284.out | refine below_set ?_ GE285.out) | exact HB.out)⟩
          ·rw [if_neg c23] at H
           have c23b0 : ((bt a0 4) == 45) = false := beq_eq_false_iff_ne.mpr c23
           have c23b1 : ((bt a0 4) != 45) = true := bne_iff_ne.mpr c23
           replace H := Option.bind_eq_some_iff.mp H
           obtain ⟨t287, A350, H⟩ := H
           replace H : (if t287.toList = a0.toList then (some ((a0.extract 0 3), x286001_2, true)) else (some ((⟨#[]⟩ : ByteArray), 0, false))) = some (r1, r2, r3) := H
           have A35 := Aside0.mk A350
           clear A350
           by_cases c36 : t287.toList = a0.toList
           ·rw [if_pos c36] at H
            have c36b0 : (t287.toList == a0.toList) = true := beq_iff_eq.mpr c36
            have c36b1 : (t287.toList != a0.toList) = false := bne_eq_false_iff_eq.mpr c36
            clear c36
            simp only [Option.some.injEq, Prod.mk.injEq] at H
            obtain ⟨rfl, rfl, rfl⟩ := H
            have p22 : 0 ≤ (4 : Int) := (by omega)
            have q22 : 4 < a0.size := (by have : (4 : Int) < (a0.size : Int) := of_decide_eq_true (by first | (with_reducible assumption) | assumption); omega)
            have hx22 : ∀ h : 4 < a0.size, ((a0[4]'h).toNat : Int) = bt a0 4 := bt_at a0 4
            clear p22
            have qi22 : (4 < (a0.size : Int)) = True := eq_true (of_decide_eq_true (by first | (with_reducible assumption) | assumption))
            replace q22 := eq_true q22
            have hnb37 := NB285_284.out
            have hnc37 := NB284_285.out
            have hcz38_0 : wr.cell? ⟨gb285, 0, none⟩ = some (.string (a0.extract 0 3)) := (blk_cell BK285.out 0).trans rfl
            have hcz38_1 : wr.cell? ⟨gb285, 1, none⟩ = some (.int .i64 x286001_2) := (blk_cell BK285.out 1).trans rfl
            have hfz38_0 := blk_frozen BK285.out 0
            have hfz38_1 := blk_frozen BK285.out 1
            go_wp2_with (first | ((with_reducible refine gate_callee (f := 17) rfl ?_); refine goesL_ (some 52) rfl rfl Tryd.func17 (by kernel_rfl) rfl #[.agg #[.string (a0.extract 0 3), .int .i64 x286001_2]] rfl (by (try simp only [List.map_toArray, List.map_cons, List.map_nil]); first | done | rfl | (simp only [List.length_drop, List.length_take]; rfl)) ?_; (with_reducible refine (supercargoref01_Text.calls k2 (a0.extract 0 3) x286001_2 t287 _ A35.out).mono ?_); rintro e w39 ⟨rfl, hb⟩; refine ⟨_, rfl, ?_⟩; have n0_ := Aside0.mk (blk_below (g := gb284) (o := .cells #[.string (⟨#[]⟩ : ByteArray), .int .i64 0] 23 (0, 0)) (by (with_reducible repeat (first | refine blk_drewN ?_ _ | refine blk_drew ?_ | refine blk_alloc ?_ _)); exact BK284.out) hb); have n1_ := Aside0.mk (blk_below (g := gb285) (o := .cells #[.string (a0.extract 0 3), .int .i64 x286001_2] 23 (0, 0)) (by (with_reducible repeat (first | refine blk_drewN ?_ _ | refine blk_drew ?_ | refine blk_alloc ?_ _)); exact BK285.out) hb); have n2_ := Aside0.mk (below_step (by repeat (first | (with_reducible first | exact HB.out | apply below_alloc | apply pw_below_drewN | apply below_drew1 | refine below_set ?_ GE284.out | refine below_set ?_ GE285.out) | exact HB.out)) hb); clear BK284; clear BK285; clear HB; have BK284 := n0_; have BK285 := n1_; have HB := n2_; clear n0_ n1_ n2_; (try clear hb); (try clear hb2); (try clear hk); (try clear hi); have hcz40_0 : w39.cell? ⟨gb285, 0, none⟩ = some (.string (a0.extract 0 3)) := (blk_cell BK285.out 0).trans rfl; have hcz40_1 : w39.cell? ⟨gb285, 1, none⟩ = some (.int .i64 x286001_2) := (blk_cell BK285.out 1).trans rfl; have hfz40_0 := blk_frozen BK285.out 0; have hfz40_1 := blk_frozen BK285.out 1; have hcz41_0 : w39.cell? ⟨gb284, 0, none⟩ = some (.string (⟨#[]⟩ : ByteArray)) := (blk_cell BK284.out 0).trans rfl; have hcz41_1 : w39.cell? ⟨gb284, 1, none⟩ = some (.int .i64 0) := (blk_cell BK284.out 1).trans rfl; have hfz41_0 := blk_frozen BK284.out 0; have hfz41_1 := blk_frozen BK284.out 1))
            refine bodyPost_ret (results_ct rfl _ _ gb284 23 #[.string (a0.extract 0 3), .int .i64 x286001_2] (0, 0) _ rfl (by (with_reducible repeat (first | refine blk_drewN ?_ _ | refine blk_drew ?_ | refine blk_alloc ?_ _)); refine blk_put (cs := #[.string (a0.extract 0 3), .int .i64 0]) ?_ 1 _ rfl; (with_reducible repeat (first | refine blk_drewN ?_ _ | refine blk_drew ?_ | refine blk_alloc ?_ _)); refine blk_put (cs := #[.string (⟨#[]⟩ : ByteArray), .int .i64 0]) ?_ 0 _ rfl; (with_reducible repeat (first | refine blk_drewN ?_ _ | refine blk_drew ?_ | refine blk_alloc ?_ _)); exact BK284.out) Tryd.underlying23 rfl (by kernel_rfl)) rfl ?_
            exact ⟨by first | rfl | (simp [errW_none, errW_some] <;> rfl) | (simp [*, errW_none, errW_some] <;> rfl), by repeat (first | (with_reducible first | exact HB.out | apply below_alloc | apply pw_below_drewN | apply below_drew1 | refine below_set ?_ GE284.out | refine below_set ?_ GE285.out) | exact HB.out)⟩
           ·rw [if_neg c36] at H
            have c36b0 : (t287.toList == a0.toList) = false := beq_eq_false_iff_ne.mpr c36
            have c36b1 : (t287.toList != a0.toList) = true := bne_iff_ne.mpr c36
            simp only [Option.some.injEq, Prod.mk.injEq] at H
            obtain ⟨rfl, rfl, rfl⟩ := H
            have p22 : 0 ≤ (4 : Int) := (by omega)
            have q22 : 4 < a0.size := (by have : (4 : Int) < (a0.size : Int) := of_decide_eq_true (by first | (with_reducible assumption) | assumption); omega)
            have hx22 : ∀ h : 4 < a0.size, ((a0[4]'h).toNat : Int) = bt a0 4 := bt_at a0 4
            clear p22
            have qi22 : (4 < (a0.size : Int)) = True := eq_true (of_decide_eq_true (by first | (with_reducible assumption) | assumption))
            replace q22 := eq_true q22
            have hnb42 := NB285_284.out
            have hnc42 := NB284_285.out
            have hcz43_0 : wr.cell? ⟨gb285, 0, none⟩ = some (.string (a0.extract 0 3)) := (blk_cell BK285.out 0).trans rfl
            have hcz43_1 : wr.cell? ⟨gb285, 1, none⟩ = some (.int .i64 x286001_2) := (blk_cell BK285.out 1).trans rfl
            have hfz43_0 := blk_frozen BK285.out 0
            have hfz43_1 := blk_frozen BK285.out 1
            go_wp2_with (first | ((with_reducible refine gate_callee (f := 17) rfl ?_); refine goesL_ (some 52) rfl rfl Tryd.func17 (by kernel_rfl) rfl #[.agg #[.string (a0.extract 0 3), .int .i64 x286001_2]] rfl (by (try simp only [List.map_toArray, List.map_cons, List.map_nil]); first | done | rfl | (simp only [List.length_drop, List.length_take]; rfl)) ?_; (with_reducible refine (supercargoref01_Text.calls k2 (a0.extract 0 3) x286001_2 t287 _ A35.out).mono ?_); rintro e w44 ⟨rfl, hb⟩; refine ⟨_, rfl, ?_⟩; have n0_ := Aside0.mk (blk_below (g := gb284) (o := .cells #[.string (⟨#[]⟩ : ByteArray), .int .i64 0] 23 (0, 0)) (by (with_reducible repeat (first | refine blk_drewN ?_ _ | refine blk_drew ?_ | refine blk_alloc ?_ _)); exact BK284.out) hb); have n1_ := Aside0.mk (blk_below (g := gb285) (o := .cells #[.string (a0.extract 0 3), .int .i64 x286001_2] 23 (0, 0)) (by (with_reducible repeat (first | refine blk_drewN ?_ _ | refine blk_drew ?_ | refine blk_alloc ?_ _)); exact BK285.out) hb); have n2_ := Aside0.mk (below_step (by repeat (first | (with_reducible first | exact HB.out | apply below_alloc | apply pw_below_drewN | apply below_drew1 | refine below_set ?_ GE284.out | refine below_set ?_ GE285.out) | exact HB.out)) hb); clear BK284; clear BK285; clear HB; have BK284 := n0_; have BK285 := n1_; have HB := n2_; clear n0_ n1_ n2_; (try clear hb); (try clear hb2); (try clear hk); (try clear hi); have hcz45_0 : w44.cell? ⟨gb284, 0, none⟩ = some (.string (⟨#[]⟩ : ByteArray)) := (blk_cell BK284.out 0).trans rfl; have hcz45_1 : w44.cell? ⟨gb284, 1, none⟩ = some (.int .i64 0) := (blk_cell BK284.out 1).trans rfl; have hfz45_0 := blk_frozen BK284.out 0; have hfz45_1 := blk_frozen BK284.out 1))
            refine bodyPost_ret (results_ct rfl _ _ gb284 23 #[.string (⟨#[]⟩ : ByteArray), .int .i64 0] (0, 0) _ rfl (by (with_reducible repeat (first | refine blk_drewN ?_ _ | refine blk_drew ?_ | refine blk_alloc ?_ _)); refine blk_put (cs := #[.string (⟨#[]⟩ : ByteArray), .int .i64 0]) ?_ 1 _ rfl; (with_reducible repeat (first | refine blk_drewN ?_ _ | refine blk_drew ?_ | refine blk_alloc ?_ _)); refine blk_put (cs := #[.string (⟨#[]⟩ : ByteArray), .int .i64 0]) ?_ 0 _ rfl; (with_reducible repeat (first | refine blk_drewN ?_ _ | refine blk_drew ?_ | refine blk_alloc ?_ _)); exact BK284.out) Tryd.underlying23 rfl (by kernel_rfl)) rfl ?_
            exact ⟨by first | rfl | (simp [errW_none, errW_some] <;> rfl) | (simp [*, errW_none, errW_some] <;> rfl), by repeat (first | (with_reducible first | exact HB.out | apply below_alloc | apply pw_below_drewN | apply below_drew1 | refine below_set ?_ GE284.out | refine below_set ?_ GE285.out) | exact HB.out)⟩
         ·rw [if_neg c21] at H
          exact absurd H (by simp)
     ·rw [if_neg c8] at H
      exact absurd H (by simp)
    ·rw [if_neg c7] at H
     exact absurd H (by simp)

/-! ### supercargolaw01_MoneyParses: function 7 -/
def supercargolaw01_MoneyParses.f (k : Nat) (a0 : ByteArray) : Option (Bool) := if (a0.size : Int) > 60 then ((supercargolaw01_awake.f k).bind fun t288 => (some t288)) else ((money_Parse.f k a0).bind fun bt289 => ((supercargoref01_Parse.f k a0).bind fun bt293 => (if bt293.2.2 = true then (if (bt289.1.toList == bt293.1.toList && (bt289.2.1 == bt293.2.1)) = true then (if bt289.2.2 = 0 then ((money_Text.f k bt289.1 bt289.2.1).bind fun t297 => (if t297.toList = a0.toList then ((supercargolaw01_awake.f k).bind fun t298 => (some t298)) else (some false))) else (some false)) else (some false)) else (if (bt289.1.toList == ([] : List UInt8) && (bt289.2.1 == 0)) = true then (if bt289.2.2 = 2 then ((supercargolaw01_awake.f k).bind fun t299 => (some t299)) else (some false)) else (some false)))))
theorem supercargolaw01_MoneyParses.mono : ∀ a0 k, LeO (supercargolaw01_MoneyParses.f k a0) (supercargolaw01_MoneyParses.f (k + 1) a0) := by
 intro a0 k
 unfold supercargolaw01_MoneyParses.f
 repeat' first
   | (with_reducible exact money_Parse.mono _ _)
   | (with_reducible exact money_Text.mono _ _ _)
   | (with_reducible exact supercargolaw01_awake.mono _)
   | (with_reducible exact supercargoref01_Parse.mono _ _)
   | (with_reducible exact LeO.refl _)
   | (with_reducible exact LeO.none _)
   | (with_reducible refine LeO.ite ?_ ?_)
   | (with_reducible refine LeO.bind ?_ (fun _ => ?_))
   | exact money_Parse.mono _ _
   | exact money_Text.mono _ _ _
   | exact supercargolaw01_awake.mono _
   | exact supercargoref01_Parse.mono _ _
   | exact LeO.none _
   | refine LeO.ite ?_ ?_
   | refine LeO.bind ?_ (fun _ => ?_)
set_option maxHeartbeats 8000000 in
set_option maxRecDepth 100000 in
theorem supercargolaw01_MoneyParses.calls (k : Nat) (a0 : ByteArray) (r : Bool) (w : World) (hT : Tabs w) (h : supercargolaw01_MoneyParses.f k a0 = some r) :
  Calls Tryd.prog 7 #[.string a0] w fun e w' => e = .returned (.bool r) ∧ Below w.heap.size w w' := by
 have hu23 := Tryd.underlying23
 have HT := Aside0.mk hT
 clear hT
 have HB := Aside0.mk (Below.refl w.heap.size w)
 have H : (if (a0.size : Int) > 60 then ((supercargolaw01_awake.f k).bind fun t288 => (some t288)) else ((money_Parse.f k a0).bind fun bt289 => ((supercargoref01_Parse.f k a0).bind fun bt293 => (if bt293.2.2 = true then (if (bt289.1.toList == bt293.1.toList && (bt289.2.1 == bt293.2.1)) = true then (if bt289.2.2 = 0 then ((money_Text.f k bt289.1 bt289.2.1).bind fun t297 => (if t297.toList = a0.toList then ((supercargolaw01_awake.f k).bind fun t298 => (some t298)) else (some false))) else (some false)) else (some false)) else (if (bt289.1.toList == ([] : List UInt8) && (bt289.2.1 == 0)) = true then (if bt289.2.2 = 2 then ((supercargolaw01_awake.f k).bind fun t299 => (some t299)) else (some false)) else (some false)))))) = some r := h
 clear h
 by_cases c2 : (a0.size : Int) > 60
 ·rw [if_pos c2] at H
  have c2b0 : decide (60 < (a0.size : Int)) = true := decide_eq_true c2
  have c2b1 : decide (60 < a0.size) = true := decide_eq_true (by omega)
  clear c2
  replace H := Option.bind_eq_some_iff.mp H
  obtain ⟨t288, A30, H⟩ := H
  replace H : (some t288) = some r := H
  have A3 := Aside0.mk A30
  clear A30
  obtain rfl := Option.some.inj H
  go_enter Tryd.func7, Tryd.ntmps7
  go_wp2_with (first | ((with_reducible refine gate_callee (f := 13) rfl ?_); refine goesL_ (some 10) rfl rfl Tryd.func13 (by kernel_rfl) rfl #[] rfl (by (try simp only [List.map_toArray, List.map_cons, List.map_nil]); first | done | rfl | (simp only [List.length_drop, List.length_take]; rfl)) ?_; (with_reducible refine (supercargolaw01_awake.calls k  t288 _ ?side1 A3.out).mono ?_); (case side1 => repeat (first | exact HT.out | exact Tabs_below HT.out (by repeat (first | (with_reducible first | exact HB.out | apply below_alloc | apply pw_below_drewN | apply below_drew1) | exact HB.out)) | (with_reducible refine Tabs_drewN ?_ _) | (with_reducible refine Tabs_drew ?_))); rintro e w4 ⟨rfl, hb⟩; refine ⟨_, rfl, ?_⟩; have n0_ := Aside0.mk (below_step (by repeat (first | (with_reducible first | exact HB.out | apply below_alloc | apply pw_below_drewN | apply below_drew1) | exact HB.out)) hb); clear HB; have HB := n0_; clear n0_; (try clear hb); (try clear hb2); (try clear hk); (try clear hi)))
  go_ret
  exact ⟨by first | rfl | (simp [errW_none, errW_some] <;> rfl) | (simp [*, errW_none, errW_some] <;> rfl), by repeat (first | (with_reducible first | exact HB.out | apply below_alloc | apply pw_below_drewN | apply below_drew1) | exact HB.out)⟩
 ·rw [if_neg c2] at H
  have c2b0 : decide (60 < (a0.size : Int)) = false := decide_eq_false c2
  have c2b1 : decide (60 < a0.size) = false := decide_eq_false (by omega)
  clear c2
  replace H := Option.bind_eq_some_iff.mp H
  obtain ⟨⟨t289, t290, t291⟩, A50, H⟩ := H
  replace H : ((supercargoref01_Parse.f k a0).bind fun bt293 => (if bt293.2.2 = true then (if (t289.toList == bt293.1.toList && (t290 == bt293.2.1)) = true then (if t291 = 0 then ((money_Text.f k t289 t290).bind fun t297 => (if t297.toList = a0.toList then ((supercargolaw01_awake.f k).bind fun t298 => (some t298)) else (some false))) else (some false)) else (some false)) else (if (t289.toList == ([] : List UInt8) && (t290 == 0)) = true then (if t291 = 2 then ((supercargolaw01_awake.f k).bind fun t299 => (some t299)) else (some false)) else (some false)))) = some r := H
  have A5 := Aside0.mk A50
  clear A50
  replace H := Option.bind_eq_some_iff.mp H
  obtain ⟨⟨t293, t294, t295⟩, A60, H⟩ := H
  replace H : (if t295 = true then (if (t289.toList == t293.toList && (t290 == t294)) = true then (if t291 = 0 then ((money_Text.f k t289 t290).bind fun t297 => (if t297.toList = a0.toList then ((supercargolaw01_awake.f k).bind fun t298 => (some t298)) else (some false))) else (some false)) else (some false)) else (if (t289.toList == ([] : List UInt8) && (t290 == 0)) = true then (if t291 = 2 then ((supercargolaw01_awake.f k).bind fun t299 => (some t299)) else (some false)) else (some false))) = some r := H
  have A6 := Aside0.mk A60
  clear A60
  by_cases c7 : t295 = true
  ·subst c7
   have H1 : (if (t289.toList == t293.toList && (t290 == t294)) = true then (if t291 = 0 then ((money_Text.f k t289 t290).bind fun t297 => (if t297.toList = a0.toList then ((supercargolaw01_awake.f k).bind fun t298 => (some t298)) else (some false))) else (some false)) else (some false)) = some r := by rw [if_pos rfl] at H; exact H
   clear H
   have H := H1
   clear H1
   by_cases c8 : (t289.toList == t293.toList && (t290 == t294)) = true
   ·rw [if_pos c8] at H
    have c8b0 : (t289.toList == t293.toList && (t290 == t294)) = true := c8
    (try (have c8b1 : decide (t289.toList = t293.toList && (t290 == t294)) = true := by simpa using c8))
    (try (have c8b2 : (t289.toList == t293.toList && (t290 == t294)) = true := by simpa using c8))
    clear c8
    by_cases c9 : t291 = 0
    ·rw [if_pos c9] at H
     have c9b0 : (t291 == 0) = true := beq_iff_eq.mpr c9
     have c9b1 : (t291 != 0) = false := bne_eq_false_iff_eq.mpr c9
     clear c9
     replace H := Option.bind_eq_some_iff.mp H
     obtain ⟨t297, A100, H⟩ := H
     replace H : (if t297.toList = a0.toList then ((supercargolaw01_awake.f k).bind fun t298 => (some t298)) else (some false)) = some r := H
     have A10 := Aside0.mk A100
     clear A100
     by_cases c11 : t297.toList = a0.toList
     ·rw [if_pos c11] at H
      have c11b0 : (t297.toList == a0.toList) = true := beq_iff_eq.mpr c11
      have c11b1 : (t297.toList != a0.toList) = false := bne_eq_false_iff_eq.mpr c11
      clear c11
      replace H := Option.bind_eq_some_iff.mp H
      obtain ⟨t298, A120, H⟩ := H
      replace H : (some t298) = some r := H
      have A12 := Aside0.mk A120
      clear A120
      obtain rfl := Option.some.inj H
      go_enter Tryd.func7, Tryd.ntmps7
      go_wp2_with (first | ((with_reducible refine gate_callee (f := 16) rfl ?_); refine goesL_ (some 13) rfl rfl Tryd.func16 (by kernel_rfl) rfl #[.string a0] rfl (by (try simp only [List.map_toArray, List.map_cons, List.map_nil]); first | done | rfl | (simp only [List.length_drop, List.length_take]; rfl)) ?_; (with_reducible refine (money_Parse.calls k a0 t289 t290 t291 _ ?side1 A5.out).mono ?_); (case side1 => repeat (first | exact HT.out | exact Tabs_below HT.out (by repeat (first | (with_reducible first | exact HB.out | apply below_alloc | apply pw_below_drewN | apply below_drew1) | exact HB.out)) | (with_reducible refine Tabs_drewN ?_ _) | (with_reducible refine Tabs_drew ?_))); rintro e w13 ⟨rfl, hb⟩; refine ⟨_, rfl, ?_⟩; have n0_ := Aside0.mk (below_step (by repeat (first | (with_reducible first | exact HB.out | apply below_alloc | apply pw_below_drewN | apply below_drew1) | exact HB.out)) hb); clear HB; have HB := n0_; clear n0_; (try clear hb); (try clear hb2); (try clear hk); (try clear hi)) | ((with_reducible refine gate_dst (N := 3) rfl ?_); refine box_event ?hg (N := 3) ?hd (cs := #[.string (⟨#[]⟩ : ByteArray), .int .i64 0]) (t := 23) ?hr ?_; (case hd => rfl); (case hg => rfl); (case hr => first | (go_simp; done) | (go_simp; rfl)); intro gb292 hg w14 hbox hb; have n0_ := Aside0.mk (below_step (by repeat (first | (with_reducible first | exact HB.out | apply below_alloc | apply pw_below_drewN | apply below_drew1) | exact HB.out)) hb); have n1_ := Aside0.mk (hbox); have n2_ := Aside0.mk ((by rw [hg]; exact (below_size (by repeat (first | (with_reducible first | exact HB.out | apply below_alloc | apply pw_below_drewN | apply below_drew1) | exact HB.out))) : w.heap.size ≤ gb292)); have n3_ := Aside0.mk ((by rw [hg]; exact (below_size (by repeat (first | (with_reducible first | exact HB.out | apply below_alloc | apply pw_below_drewN | apply below_drew1) | exact HB.out))) : w.heap.size ≤ gb292)); clear HB; have HB := n0_; have BK292 := n1_; have GW292 := n2_; have GE292 := n3_; clear n0_ n1_ n2_ n3_; clear hb hbox hg; have hcz15_0 : w14.cell? ⟨gb292, 0, none⟩ = some (.string (⟨#[]⟩ : ByteArray)) := (blk_cell BK292.out 0).trans rfl; have hcz15_1 : w14.cell? ⟨gb292, 1, none⟩ = some (.int .i64 0) := (blk_cell BK292.out 1).trans rfl; have hfz15_0 := blk_frozen BK292.out 0; have hfz15_1 := blk_frozen BK292.out 1) | ((with_reducible refine gate_callee (f := 18) rfl ?_); refine goesL_ (some 18) rfl rfl Tryd.func18 (by kernel_rfl) rfl #[.string a0] rfl (by (try simp only [List.map_toArray, List.map_cons, List.map_nil]); first | done | rfl | (simp only [List.length_drop, List.length_take]; rfl)) ?_; (with_reducible refine (supercargoref01_Parse.calls k a0 t293 t294 true _ A6.out).mono ?_); rintro e w16 ⟨rfl, hb⟩; refine ⟨_, rfl, ?_⟩; have n0_ := Aside0.mk (blk_below (g := gb292) (o := .cells #[.string t289, .int .i64 t290] 23 (0, 0)) (by (with_reducible repeat (first | refine blk_drewN ?_ _ | refine blk_drew ?_ | refine blk_alloc ?_ _)); refine blk_put (cs := #[.string t289, .int .i64 0]) ?_ 1 _ rfl; (with_reducible repeat (first | refine blk_drewN ?_ _ | refine blk_drew ?_ | refine blk_alloc ?_ _)); refine blk_put (cs := #[.string (⟨#[]⟩ : ByteArray), .int .i64 0]) ?_ 0 _ rfl; (with_reducible repeat (first | refine blk_drewN ?_ _ | refine blk_drew ?_ | refine blk_alloc ?_ _)); exact BK292.out) hb); have n1_ := Aside0.mk (below_step (by repeat (first | (with_reducible first | exact HB.out | apply below_alloc | apply pw_below_drewN | apply below_drew1 | refine below_set ?_ GE292.out) | exact HB.out)) hb); clear BK292; clear HB; have BK292 := n0_; have HB := n1_; clear n0_ n1_; (try clear hb); (try clear hb2); (try clear hk); (try clear hi)) | ((with_reducible refine gate_dst (N := 5) rfl ?_); refine box_event ?hg (N := 5) ?hd (cs := #[.string (⟨#[]⟩ : ByteArray), .int .i64 0]) (t := 23) ?hr ?_; (case hd => rfl); (case hg => rfl); (case hr => first | (go_simp; done) | (go_simp; rfl)); intro gb296 hg w17 hbox hb; have n0_ := Aside0.mk (blk_below (g := gb292) (o := .cells #[.string t289, .int .i64 t290] 23 (0, 0)) (by (with_reducible repeat (first | refine blk_drewN ?_ _ | refine blk_drew ?_ | refine blk_alloc ?_ _)); exact BK292.out) hb); have n1_ := Aside0.mk (below_step (by repeat (first | (with_reducible first | exact HB.out | apply below_alloc | apply pw_below_drewN | apply below_drew1 | refine below_set ?_ GE292.out) | exact HB.out)) hb); have n2_ := Aside0.mk (hbox); have n3_ := Aside0.mk ((by rw [hg]; exact (below_size (by repeat (first | (with_reducible first | exact HB.out | apply below_alloc | apply pw_below_drewN | apply below_drew1 | refine below_set ?_ GE292.out) | exact HB.out))) : w.heap.size ≤ gb296)); have n4_ := Aside0.mk ((by rw [hg]; exact (below_size (by repeat (first | (with_reducible first | exact HB.out | apply below_alloc | apply pw_below_drewN | apply below_drew1 | refine below_set ?_ GE292.out) | exact HB.out))) : w.heap.size ≤ gb296)); have n5_ := Aside0.mk ((by rw [hg]; exact Nat.ne_of_lt (blk_lt (g := gb292) (o := .cells #[.string t289, .int .i64 t290] 23 (0, 0)) (by (with_reducible repeat (first | refine blk_drewN ?_ _ | refine blk_drew ?_ | refine blk_alloc ?_ _)); exact BK292.out)) : gb292 ≠ gb296)); have n6_ := Aside0.mk ((by rw [hg]; exact Nat.ne_of_gt (blk_lt (g := gb292) (o := .cells #[.string t289, .int .i64 t290] 23 (0, 0)) (by (with_reducible repeat (first | refine blk_drewN ?_ _ | refine blk_drew ?_ | refine blk_alloc ?_ _)); exact BK292.out)) : gb296 ≠ gb292)); clear BK292; clear HB; have BK292 := n0_; have HB := n1_; have BK296 := n2_; have GW296 := n3_; have GE296 := n4_; have NB292_296 := n5_; have NB296_292 := n6_; clear n0_ n1_ n2_ n3_ n4_ n5_ n6_; clear hb hbox hg; have hnb18 := NB296_292.out; have hnc18 := NB292_296.out; have hcz19_0 : w17.cell? ⟨gb296, 0, none⟩ = some (.string (⟨#[]⟩ : ByteArray)) := (blk_cell BK296.out 0).trans rfl; have hcz19_1 : w17.cell? ⟨gb296, 1, none⟩ = some (.int .i64 0) := (blk_cell BK296.out 1).trans rfl; have hfz19_0 := blk_frozen BK296.out 0; have hfz19_1 := blk_frozen BK296.out 1; have hcz20_0 : w17.cell? ⟨gb292, 0, none⟩ = some (.string t289) := (blk_cell BK292.out 0).trans rfl; have hcz20_1 : w17.cell? ⟨gb292, 1, none⟩ = some (.int .i64 t290) := (blk_cell BK292.out 1).trans rfl; have hfz20_0 := blk_frozen BK292.out 0; have hfz20_1 := blk_frozen BK292.out 1) | (go_at_call 15; (with_reducible refine (money_Text.calls k t289 t290 t297 _ ?side1 A10.out).mono ?_); (case side1 => repeat (first | exact HT.out | exact Tabs_below HT.out (by repeat (first | (with_reducible first | exact HB.out | apply below_alloc | apply pw_below_drewN | apply below_drew1 | refine below_set ?_ GE292.out | refine below_set ?_ GE296.out) | exact HB.out)) | (with_reducible refine Tabs_drewN ?_ _) | (with_reducible refine Tabs_drew ?_))); rintro e w21 ⟨rfl, hb⟩; have n0_ := Aside0.mk (blk_below (g := gb292) (o := .cells #[.string t289, .int .i64 t290] 23 (0, 0)) (by (with_reducible repeat (first | refine blk_drewN ?_ _ | refine blk_drew ?_ | refine blk_alloc ?_ _)); refine blk_far ?_ NB292_296.out _; (with_reducible repeat (first | refine blk_drewN ?_ _ | refine blk_drew ?_ | refine blk_alloc ?_ _)); refine blk_far ?_ NB292_296.out _; (with_reducible repeat (first | refine blk_drewN ?_ _ | refine blk_drew ?_ | refine blk_alloc ?_ _)); exact BK292.out) hb); have n1_ := Aside0.mk (blk_below (g := gb296) (o := .cells #[.string t293, .int .i64 t294] 23 (0, 0)) (by (with_reducible repeat (first | refine blk_drewN ?_ _ | refine blk_drew ?_ | refine blk_alloc ?_ _)); refine blk_put (cs := #[.string t293, .int .i64 0]) ?_ 1 _ rfl; (with_reducible repeat (first | refine blk_drewN ?_ _ | refine blk_drew ?_ | refine blk_alloc ?_ _)); refine blk_put (cs := #[.string (⟨#[]⟩ : ByteArray), .int .i64 0]) ?_ 0 _ rfl; (with_reducible repeat (first | refine blk_drewN ?_ _ | refine blk_drew ?_ | refine blk_alloc ?_ _)); exact BK296.out) hb); have n2_ := Aside0.mk (below_step (by repeat (first | (with_reducible first | exact HB.out | apply below_alloc | apply pw_below_drewN | apply below_drew1 | refine below_set ?_ GE292.out | refine below_set ?_ GE296.out) | exact HB.out)) hb); clear BK292; clear BK296; clear HB; have BK292 := n0_; have BK296 := n1_; have HB := n2_; clear n0_ n1_ n2_; (try clear hb); (try clear hb2); (try clear hk); (try clear hi)) | (go_at_call 13; (with_reducible refine (supercargolaw01_awake.calls k  t298 _ ?side1 A12.out).mono ?_); (case side1 => repeat (first | exact HT.out | exact Tabs_below HT.out (by repeat (first | (with_reducible first | exact HB.out | apply below_alloc | apply pw_below_drewN | apply below_drew1 | refine below_set ?_ GE292.out | refine below_set ?_ GE296.out) | exact HB.out)) | (with_reducible refine Tabs_drewN ?_ _) | (with_reducible refine Tabs_drew ?_))); rintro e w22 ⟨rfl, hb⟩; have n0_ := Aside0.mk (blk_below (g := gb292) (o := .cells #[.string t289, .int .i64 t290] 23 (0, 0)) (by (with_reducible repeat (first | refine blk_drewN ?_ _ | refine blk_drew ?_ | refine blk_alloc ?_ _)); exact BK292.out) hb); have n1_ := Aside0.mk (blk_below (g := gb296) (o := .cells #[.string t293, .int .i64 t294] 23 (0, 0)) (by (with_reducible repeat (first | refine blk_drewN ?_ _ | refine blk_drew ?_ | refine blk_alloc ?_ _)); exact BK296.out) hb); have n2_ := Aside0.mk (below_step (by repeat (first | (with_reducible first | exact HB.out | apply below_alloc | apply pw_below_drewN | apply below_drew1 | refine below_set ?_ GE292.out | refine below_set ?_ GE296.out) | exact HB.out)) hb); clear BK292; clear BK296; clear HB; have BK292 := n0_; have BK296 := n1_; have HB := n2_; clear n0_ n1_ n2_; (try clear hb); (try clear hb2); (try clear hk); (try clear hi)))
      go_ret
      exact ⟨by first | rfl | (simp [errW_none, errW_some] <;> rfl) | (simp [*, errW_none, errW_some] <;> rfl), by repeat (first | (with_reducible first | exact HB.out | apply below_alloc | apply pw_below_drewN | apply below_drew1 | refine below_set ?_ GE292.out | refine below_set ?_ GE296.out) | exact HB.out)⟩
     ·rw [if_neg c11] at H
      have c11b0 : (t297.toList == a0.toList) = false := beq_eq_false_iff_ne.mpr c11
      have c11b1 : (t297.toList != a0.toList) = true := bne_iff_ne.mpr c11
      obtain rfl := Option.some.inj H
      go_enter Tryd.func7, Tryd.ntmps7
      go_wp2_with (first | ((with_reducible refine gate_callee (f := 16) rfl ?_); refine goesL_ (some 13) rfl rfl Tryd.func16 (by kernel_rfl) rfl #[.string a0] rfl (by (try simp only [List.map_toArray, List.map_cons, List.map_nil]); first | done | rfl | (simp only [List.length_drop, List.length_take]; rfl)) ?_; (with_reducible refine (money_Parse.calls k a0 t289 t290 t291 _ ?side1 A5.out).mono ?_); (case side1 => repeat (first | exact HT.out | exact Tabs_below HT.out (by repeat (first | (with_reducible first | exact HB.out | apply below_alloc | apply pw_below_drewN | apply below_drew1) | exact HB.out)) | (with_reducible refine Tabs_drewN ?_ _) | (with_reducible refine Tabs_drew ?_))); rintro e w23 ⟨rfl, hb⟩; refine ⟨_, rfl, ?_⟩; have n0_ := Aside0.mk (below_step (by repeat (first | (with_reducible first | exact HB.out | apply below_alloc | apply pw_below_drewN | apply below_drew1) | exact HB.out)) hb); clear HB; have HB := n0_; clear n0_; (try clear hb); (try clear hb2); (try clear hk); (try clear hi)) | ((with_reducible refine gate_dst (N := 3) rfl ?_); refine box_event ?hg (N := 3) ?hd (cs := #[.string (⟨#[]⟩ : ByteArray), .int .i64 0]) (t := 23) ?hr ?_; (case hd => rfl); (case hg => rfl); (case hr => first | (go_simp; done) | (go_simp; rfl)); intro gb292 hg w24 hbox hb; have n0_ := Aside0.mk (below_step (by repeat (first | (with_reducible first | exact HB.out | apply below_alloc | apply pw_below_drewN | apply below_drew1) | exact HB.out)) hb); have n1_ := Aside0.mk (hbox); have n2_ := Aside0.mk ((by rw [hg]; exact (below_size (by repeat (first | (with_reducible first | exact HB.out | apply below_alloc | apply pw_below_drewN | apply below_drew1) | exact HB.out))) : w.heap.size ≤ gb292)); have n3_ := Aside0.mk ((by rw [hg]; exact (below_size (by repeat (first | (with_reducible first | exact HB.out | apply below_alloc | apply pw_below_drewN | apply below_drew1) | exact HB.out))) : w.heap.size ≤ gb292)); clear HB; have HB := n0_; have BK292 := n1_; have GW292 := n2_; have GE292 := n3_; clear n0_ n1_ n2_ n3_; clear hb hbox hg; have hcz25_0 : w24.cell? ⟨gb292, 0, none⟩ = some (.string (⟨#[]⟩ : ByteArray)) := (blk_cell BK292.out 0).trans rfl; have hcz25_1 : w24.cell? ⟨gb292, 1, none⟩ = some (.int .i64 0) := (blk_cell BK292.out 1).trans rfl; have hfz25_0 := blk_frozen BK292.out 0; have hfz25_1 := blk_frozen BK292.out 1) | ((with_reducible refine gate_callee (f := 18) rfl ?_); refine goesL_ (some 18) rfl rfl Tryd.func18 (by kernel_rfl) rfl #[.string a0] rfl (by (try simp only [List.map_toArray, List.map_cons, List.map_nil]); first | done | rfl | (simp only [List.length_drop, List.length_take]; rfl)) ?_; (with_reducible refine (supercargoref01_Parse.calls k a0 t293 t294 true _ A6.out).mono ?_); rintro e w26 ⟨rfl, hb⟩; refine ⟨_, rfl, ?_⟩; have n0_ := Aside0.mk (blk_below (g := gb292) (o := .cells #[.string t289, .int .i64 t290] 23 (0, 0)) (by (with_reducible repeat (first | refine blk_drewN ?_ _ | refine blk_drew ?_ | refine blk_alloc ?_ _)); refine blk_put (cs := #[.string t289, .int .i64 0]) ?_ 1 _ rfl; (with_reducible repeat (first | refine blk_drewN ?_ _ | refine blk_drew ?_ | refine blk_alloc ?_ _)); refine blk_put (cs := #[.string (⟨#[]⟩ : ByteArray), .int .i64 0]) ?_ 0 _ rfl; (with_reducible repeat (first | refine blk_drewN ?_ _ | refine blk_drew ?_ | refine blk_alloc ?_ _)); exact BK292.out) hb); have n1_ := Aside0.mk (below_step (by repeat (first | (with_reducible first | exact HB.out | apply below_alloc | apply pw_below_drewN | apply below_drew1 | refine below_set ?_ GE292.out) | exact HB.out)) hb); clear BK292; clear HB; have BK292 := n0_; have HB := n1_; clear n0_ n1_; (try clear hb); (try clear hb2); (try clear hk); (try clear hi)) | ((with_reducible refine gate_dst (N := 5) rfl ?_); refine box_event ?hg (N := 5) ?hd (cs := #[.string (⟨#[]⟩ : ByteArray), .int .i64 0]) (t := 23) ?hr ?_; (case hd => rfl); (case hg => rfl); (case hr => first | (go_simp; done) | (go_simp; rfl)); intro gb296 hg w27 hbox hb; have n0_ := Aside0.mk (blk_below (g := gb292) (o := .cells #[.string t289, .int .i64 t290] 23 (0, 0)) (by (with_reducible repeat (first | refine blk_drewN ?_ _ | refine blk_drew ?_ | refine blk_alloc ?_ _)); exact BK292.out) hb); have n1_ := Aside0.mk (below_step (by repeat (first | (with_reducible first | exact HB.out | apply below_alloc | apply pw_below_drewN | apply below_drew1 | refine below_set ?_ GE292.out) | exact HB.out)) hb); have n2_ := Aside0.mk (hbox); have n3_ := Aside0.mk ((by rw [hg]; exact (below_size (by repeat (first | (with_reducible first | exact HB.out | apply below_alloc | apply pw_below_drewN | apply below_drew1 | refine below_set ?_ GE292.out) | exact HB.out))) : w.heap.size ≤ gb296)); have n4_ := Aside0.mk ((by rw [hg]; exact (below_size (by repeat (first | (with_reducible first | exact HB.out | apply below_alloc | apply pw_below_drewN | apply below_drew1 | refine below_set ?_ GE292.out) | exact HB.out))) : w.heap.size ≤ gb296)); have n5_ := Aside0.mk ((by rw [hg]; exact Nat.ne_of_lt (blk_lt (g := gb292) (o := .cells #[.string t289, .int .i64 t290] 23 (0, 0)) (by (with_reducible repeat (first | refine blk_drewN ?_ _ | refine blk_drew ?_ | refine blk_alloc ?_ _)); exact BK292.out)) : gb292 ≠ gb296)); have n6_ := Aside0.mk ((by rw [hg]; exact Nat.ne_of_gt (blk_lt (g := gb292) (o := .cells #[.string t289, .int .i64 t290] 23 (0, 0)) (by (with_reducible repeat (first | refine blk_drewN ?_ _ | refine blk_drew ?_ | refine blk_alloc ?_ _)); exact BK292.out)) : gb296 ≠ gb292)); clear BK292; clear HB; have BK292 := n0_; have HB := n1_; have BK296 := n2_; have GW296 := n3_; have GE296 := n4_; have NB292_296 := n5_; have NB296_292 := n6_; clear n0_ n1_ n2_ n3_ n4_ n5_ n6_; clear hb hbox hg; have hnb28 := NB296_292.out; have hnc28 := NB292_296.out; have hcz29_0 : w27.cell? ⟨gb296, 0, none⟩ = some (.string (⟨#[]⟩ : ByteArray)) := (blk_cell BK296.out 0).trans rfl; have hcz29_1 : w27.cell? ⟨gb296, 1, none⟩ = some (.int .i64 0) := (blk_cell BK296.out 1).trans rfl; have hfz29_0 := blk_frozen BK296.out 0; have hfz29_1 := blk_frozen BK296.out 1; have hcz30_0 : w27.cell? ⟨gb292, 0, none⟩ = some (.string t289) := (blk_cell BK292.out 0).trans rfl; have hcz30_1 : w27.cell? ⟨gb292, 1, none⟩ = some (.int .i64 t290) := (blk_cell BK292.out 1).trans rfl; have hfz30_0 := blk_frozen BK292.out 0; have hfz30_1 := blk_frozen BK292.out 1) | (go_at_call 15; (with_reducible refine (money_Text.calls k t289 t290 t297 _ ?side1 A10.out).mono ?_); (case side1 => repeat (first | exact HT.out | exact Tabs_below HT.out (by repeat (first | (with_reducible first | exact HB.out | apply below_alloc | apply pw_below_drewN | apply below_drew1 | refine below_set ?_ GE292.out | refine below_set ?_ GE296.out) | exact HB.out)) | (with_reducible refine Tabs_drewN ?_ _) | (with_reducible refine Tabs_drew ?_))); rintro e w31 ⟨rfl, hb⟩; have n0_ := Aside0.mk (blk_below (g := gb292) (o := .cells #[.string t289, .int .i64 t290] 23 (0, 0)) (by (with_reducible repeat (first | refine blk_drewN ?_ _ | refine blk_drew ?_ | refine blk_alloc ?_ _)); refine blk_far ?_ NB292_296.out _; (with_reducible repeat (first | refine blk_drewN ?_ _ | refine blk_drew ?_ | refine blk_alloc ?_ _)); refine blk_far ?_ NB292_296.out _; (with_reducible repeat (first | refine blk_drewN ?_ _ | refine blk_drew ?_ | refine blk_alloc ?_ _)); exact BK292.out) hb); have n1_ := Aside0.mk (blk_below (g := gb296) (o := .cells #[.string t293, .int .i64 t294] 23 (0, 0)) (by (with_reducible repeat (first | refine blk_drewN ?_ _ | refine blk_drew ?_ | refine blk_alloc ?_ _)); refine blk_put (cs := #[.string t293, .int .i64 0]) ?_ 1 _ rfl; (with_reducible repeat (first | refine blk_drewN ?_ _ | refine blk_drew ?_ | refine blk_alloc ?_ _)); refine blk_put (cs := #[.string (⟨#[]⟩ : ByteArray), .int .i64 0]) ?_ 0 _ rfl; (with_reducible repeat (first | refine blk_drewN ?_ _ | refine blk_drew ?_ | refine blk_alloc ?_ _)); exact BK296.out) hb); have n2_ := Aside0.mk (below_step (by repeat (first | (with_reducible first | exact HB.out | apply below_alloc | apply pw_below_drewN | apply below_drew1 | refine below_set ?_ GE292.out | refine below_set ?_ GE296.out) | exact HB.out)) hb); clear BK292; clear BK296; clear HB; have BK292 := n0_; have BK296 := n1_; have HB := n2_; clear n0_ n1_ n2_; (try clear hb); (try clear hb2); (try clear hk); (try clear hi)))
      go_ret
      exact ⟨by first | rfl | (simp [errW_none, errW_some] <;> rfl) | (simp [*, errW_none, errW_some] <;> rfl), by repeat (first | (with_reducible first | exact HB.out | apply below_alloc | apply pw_below_drewN | apply below_drew1 | refine below_set ?_ GE292.out | refine below_set ?_ GE296.out) | exact HB.out)⟩
    ·rw [if_neg c9] at H
     have c9b0 : (t291 == 0) = false := beq_eq_false_iff_ne.mpr c9
     have c9b1 : (t291 != 0) = true := bne_iff_ne.mpr c9
     obtain rfl := Option.some.inj H
     go_enter Tryd.func7, Tryd.ntmps7
     go_wp2_with (first | ((with_reducible refine gate_callee (f := 16) rfl ?_); refine goesL_ (some 13) rfl rfl Tryd.func16 (by kernel_rfl) rfl #[.string a0] rfl (by (try simp only [List.map_toArray, List.map_cons, List.map_nil]); first | done | rfl | (simp only [List.length_drop, List.length_take]; rfl)) ?_; (with_reducible refine (money_Parse.calls k a0 t289 t290 t291 _ ?side1 A5.out).mono ?_); (case side1 => repeat (first | exact HT.out | exact Tabs_below HT.out (by repeat (first | (with_reducible first | exact HB.out | apply below_alloc | apply pw_below_drewN | apply below_drew1) | exact HB.out)) | (with_reducible refine Tabs_drewN ?_ _) | (with_reducible refine Tabs_drew ?_))); rintro e w32 ⟨rfl, hb⟩; refine ⟨_, rfl, ?_⟩; have n0_ := Aside0.mk (below_step (by repeat (first | (with_reducible first | exact HB.out | apply below_alloc | apply pw_below_drewN | apply below_drew1) | exact HB.out)) hb); clear HB; have HB := n0_; clear n0_; (try clear hb); (try clear hb2); (try clear hk); (try clear hi)) | ((with_reducible refine gate_dst (N := 3) rfl ?_); refine box_event ?hg (N := 3) ?hd (cs := #[.string (⟨#[]⟩ : ByteArray), .int .i64 0]) (t := 23) ?hr ?_; (case hd => rfl); (case hg => rfl); (case hr => first | (go_simp; done) | (go_simp; rfl)); intro gb292 hg w33 hbox hb; have n0_ := Aside0.mk (below_step (by repeat (first | (with_reducible first | exact HB.out | apply below_alloc | apply pw_below_drewN | apply below_drew1) | exact HB.out)) hb); have n1_ := Aside0.mk (hbox); have n2_ := Aside0.mk ((by rw [hg]; exact (below_size (by repeat (first | (with_reducible first | exact HB.out | apply below_alloc | apply pw_below_drewN | apply below_drew1) | exact HB.out))) : w.heap.size ≤ gb292)); have n3_ := Aside0.mk ((by rw [hg]; exact (below_size (by repeat (first | (with_reducible first | exact HB.out | apply below_alloc | apply pw_below_drewN | apply below_drew1) | exact HB.out))) : w.heap.size ≤ gb292)); clear HB; have HB := n0_; have BK292 := n1_; have GW292 := n2_; have GE292 := n3_; clear n0_ n1_ n2_ n3_; clear hb hbox hg; have hcz34_0 : w33.cell? ⟨gb292, 0, none⟩ = some (.string (⟨#[]⟩ : ByteArray)) := (blk_cell BK292.out 0).trans rfl; have hcz34_1 : w33.cell? ⟨gb292, 1, none⟩ = some (.int .i64 0) := (blk_cell BK292.out 1).trans rfl; have hfz34_0 := blk_frozen BK292.out 0; have hfz34_1 := blk_frozen BK292.out 1) | ((with_reducible refine gate_callee (f := 18) rfl ?_); refine goesL_ (some 18) rfl rfl Tryd.func18 (by kernel_rfl) rfl #[.string a0] rfl (by (try simp only [List.map_toArray, List.map_cons, List.map_nil]); first | done | rfl | (simp only [List.length_drop, List.length_take]; rfl)) ?_; (with_reducible refine (supercargoref01_Parse.calls k a0 t293 t294 true _ A6.out).mono ?_); rintro e w35 ⟨rfl, hb⟩; refine ⟨_, rfl, ?_⟩; have n0_ := Aside0.mk (blk_below (g := gb292) (o := .cells #[.string t289, .int .i64 t290] 23 (0, 0)) (by (with_reducible repeat (first | refine blk_drewN ?_ _ | refine blk_drew ?_ | refine blk_alloc ?_ _)); refine blk_put (cs := #[.string t289, .int .i64 0]) ?_ 1 _ rfl; (with_reducible repeat (first | refine blk_drewN ?_ _ | refine blk_drew ?_ | refine blk_alloc ?_ _)); refine blk_put (cs := #[.string (⟨#[]⟩ : ByteArray), .int .i64 0]) ?_ 0 _ rfl; (with_reducible repeat (first | refine blk_drewN ?_ _ | refine blk_drew ?_ | refine blk_alloc ?_ _)); exact BK292.out) hb); have n1_ := Aside0.mk (below_step (by repeat (first | (with_reducible first | exact HB.out | apply below_alloc | apply pw_below_drewN | apply below_drew1 | refine below_set ?_ GE292.out) | exact HB.out)) hb); clear BK292; clear HB; have BK292 := n0_; have HB := n1_; clear n0_ n1_; (try clear hb); (try clear hb2); (try clear hk); (try clear hi)) | ((with_reducible refine gate_dst (N := 5) rfl ?_); refine box_event ?hg (N := 5) ?hd (cs := #[.string (⟨#[]⟩ : ByteArray), .int .i64 0]) (t := 23) ?hr ?_; (case hd => rfl); (case hg => rfl); (case hr => first | (go_simp; done) | (go_simp; rfl)); intro gb296 hg w36 hbox hb; have n0_ := Aside0.mk (blk_below (g := gb292) (o := .cells #[.string t289, .int .i64 t290] 23 (0, 0)) (by (with_reducible repeat (first | refine blk_drewN ?_ _ | refine blk_drew ?_ | refine blk_alloc ?_ _)); exact BK292.out) hb); have n1_ := Aside0.mk (below_step (by repeat (first | (with_reducible first | exact HB.out | apply below_alloc | apply pw_below_drewN | apply below_drew1 | refine below_set ?_ GE292.out) | exact HB.out)) hb); have n2_ := Aside0.mk (hbox); have n3_ := Aside0.mk ((by rw [hg]; exact (below_size (by repeat (first | (with_reducible first | exact HB.out | apply below_alloc | apply pw_below_drewN | apply below_drew1 | refine below_set ?_ GE292.out) | exact HB.out))) : w.heap.size ≤ gb296)); have n4_ := Aside0.mk ((by rw [hg]; exact (below_size (by repeat (first | (with_reducible first | exact HB.out | apply below_alloc | apply pw_below_drewN | apply below_drew1 | refine below_set ?_ GE292.out) | exact HB.out))) : w.heap.size ≤ gb296)); have n5_ := Aside0.mk ((by rw [hg]; exact Nat.ne_of_lt (blk_lt (g := gb292) (o := .cells #[.string t289, .int .i64 t290] 23 (0, 0)) (by (with_reducible repeat (first | refine blk_drewN ?_ _ | refine blk_drew ?_ | refine blk_alloc ?_ _)); exact BK292.out)) : gb292 ≠ gb296)); have n6_ := Aside0.mk ((by rw [hg]; exact Nat.ne_of_gt (blk_lt (g := gb292) (o := .cells #[.string t289, .int .i64 t290] 23 (0, 0)) (by (with_reducible repeat (first | refine blk_drewN ?_ _ | refine blk_drew ?_ | refine blk_alloc ?_ _)); exact BK292.out)) : gb296 ≠ gb292)); clear BK292; clear HB; have BK292 := n0_; have HB := n1_; have BK296 := n2_; have GW296 := n3_; have GE296 := n4_; have NB292_296 := n5_; have NB296_292 := n6_; clear n0_ n1_ n2_ n3_ n4_ n5_ n6_; clear hb hbox hg; have hnb37 := NB296_292.out; have hnc37 := NB292_296.out; have hcz38_0 : w36.cell? ⟨gb296, 0, none⟩ = some (.string (⟨#[]⟩ : ByteArray)) := (blk_cell BK296.out 0).trans rfl; have hcz38_1 : w36.cell? ⟨gb296, 1, none⟩ = some (.int .i64 0) := (blk_cell BK296.out 1).trans rfl; have hfz38_0 := blk_frozen BK296.out 0; have hfz38_1 := blk_frozen BK296.out 1; have hcz39_0 : w36.cell? ⟨gb292, 0, none⟩ = some (.string t289) := (blk_cell BK292.out 0).trans rfl; have hcz39_1 : w36.cell? ⟨gb292, 1, none⟩ = some (.int .i64 t290) := (blk_cell BK292.out 1).trans rfl; have hfz39_0 := blk_frozen BK292.out 0; have hfz39_1 := blk_frozen BK292.out 1))
     go_ret
     exact ⟨by first | rfl | (simp [errW_none, errW_some] <;> rfl) | (simp [*, errW_none, errW_some] <;> rfl), by repeat (first | (with_reducible first | exact HB.out | apply below_alloc | apply pw_below_drewN | apply below_drew1 | refine below_set ?_ GE292.out | refine below_set ?_ GE296.out) | exact HB.out)⟩
   ·rw [if_neg c8] at H
    have c8b0 : (t289.toList == t293.toList && (t290 == t294)) = false := by simpa using c8
    (try (have c8b1 : decide (t289.toList = t293.toList && (t290 == t294)) = false := by simpa using c8))
    (try (have c8b2 : (t289.toList == t293.toList && (t290 == t294)) = false := by simpa using c8))
    (try (have c8b3 : ¬ (t289.toList = t293.toList && (t290 == t294)) := by simpa using c8))
    clear c8
    obtain rfl := Option.some.inj H
    go_enter Tryd.func7, Tryd.ntmps7
    go_wp2_with (first | ((with_reducible refine gate_callee (f := 16) rfl ?_); refine goesL_ (some 13) rfl rfl Tryd.func16 (by kernel_rfl) rfl #[.string a0] rfl (by (try simp only [List.map_toArray, List.map_cons, List.map_nil]); first | done | rfl | (simp only [List.length_drop, List.length_take]; rfl)) ?_; (with_reducible refine (money_Parse.calls k a0 t289 t290 t291 _ ?side1 A5.out).mono ?_); (case side1 => repeat (first | exact HT.out | exact Tabs_below HT.out (by repeat (first | (with_reducible first | exact HB.out | apply below_alloc | apply pw_below_drewN | apply below_drew1) | exact HB.out)) | (with_reducible refine Tabs_drewN ?_ _) | (with_reducible refine Tabs_drew ?_))); rintro e w40 ⟨rfl, hb⟩; refine ⟨_, rfl, ?_⟩; have n0_ := Aside0.mk (below_step (by repeat (first | (with_reducible first | exact HB.out | apply below_alloc | apply pw_below_drewN | apply below_drew1) | exact HB.out)) hb); clear HB; have HB := n0_; clear n0_; (try clear hb); (try clear hb2); (try clear hk); (try clear hi)) | ((with_reducible refine gate_dst (N := 3) rfl ?_); refine box_event ?hg (N := 3) ?hd (cs := #[.string (⟨#[]⟩ : ByteArray), .int .i64 0]) (t := 23) ?hr ?_; (case hd => rfl); (case hg => rfl); (case hr => first | (go_simp; done) | (go_simp; rfl)); intro gb292 hg w41 hbox hb; have n0_ := Aside0.mk (below_step (by repeat (first | (with_reducible first | exact HB.out | apply below_alloc | apply pw_below_drewN | apply below_drew1) | exact HB.out)) hb); have n1_ := Aside0.mk (hbox); have n2_ := Aside0.mk ((by rw [hg]; exact (below_size (by repeat (first | (with_reducible first | exact HB.out | apply below_alloc | apply pw_below_drewN | apply below_drew1) | exact HB.out))) : w.heap.size ≤ gb292)); have n3_ := Aside0.mk ((by rw [hg]; exact (below_size (by repeat (first | (with_reducible first | exact HB.out | apply below_alloc | apply pw_below_drewN | apply below_drew1) | exact HB.out))) : w.heap.size ≤ gb292)); clear HB; have HB := n0_; have BK292 := n1_; have GW292 := n2_; have GE292 := n3_; clear n0_ n1_ n2_ n3_; clear hb hbox hg; have hcz42_0 : w41.cell? ⟨gb292, 0, none⟩ = some (.string (⟨#[]⟩ : ByteArray)) := (blk_cell BK292.out 0).trans rfl; have hcz42_1 : w41.cell? ⟨gb292, 1, none⟩ = some (.int .i64 0) := (blk_cell BK292.out 1).trans rfl; have hfz42_0 := blk_frozen BK292.out 0; have hfz42_1 := blk_frozen BK292.out 1) | ((with_reducible refine gate_callee (f := 18) rfl ?_); refine goesL_ (some 18) rfl rfl Tryd.func18 (by kernel_rfl) rfl #[.string a0] rfl (by (try simp only [List.map_toArray, List.map_cons, List.map_nil]); first | done | rfl | (simp only [List.length_drop, List.length_take]; rfl)) ?_; (with_reducible refine (supercargoref01_Parse.calls k a0 t293 t294 true _ A6.out).mono ?_); rintro e w43 ⟨rfl, hb⟩; refine ⟨_, rfl, ?_⟩; have n0_ := Aside0.mk (blk_below (g := gb292) (o := .cells #[.string t289, .int .i64 t290] 23 (0, 0)) (by (with_reducible repeat (first | refine blk_drewN ?_ _ | refine blk_drew ?_ | refine blk_alloc ?_ _)); refine blk_put (cs := #[.string t289, .int .i64 0]) ?_ 1 _ rfl; (with_reducible repeat (first | refine blk_drewN ?_ _ | refine blk_drew ?_ | refine blk_alloc ?_ _)); refine blk_put (cs := #[.string (⟨#[]⟩ : ByteArray), .int .i64 0]) ?_ 0 _ rfl; (with_reducible repeat (first | refine blk_drewN ?_ _ | refine blk_drew ?_ | refine blk_alloc ?_ _)); exact BK292.out) hb); have n1_ := Aside0.mk (below_step (by repeat (first | (with_reducible first | exact HB.out | apply below_alloc | apply pw_below_drewN | apply below_drew1 | refine below_set ?_ GE292.out) | exact HB.out)) hb); clear BK292; clear HB; have BK292 := n0_; have HB := n1_; clear n0_ n1_; (try clear hb); (try clear hb2); (try clear hk); (try clear hi)) | ((with_reducible refine gate_dst (N := 5) rfl ?_); refine box_event ?hg (N := 5) ?hd (cs := #[.string (⟨#[]⟩ : ByteArray), .int .i64 0]) (t := 23) ?hr ?_; (case hd => rfl); (case hg => rfl); (case hr => first | (go_simp; done) | (go_simp; rfl)); intro gb296 hg w44 hbox hb; have n0_ := Aside0.mk (blk_below (g := gb292) (o := .cells #[.string t289, .int .i64 t290] 23 (0, 0)) (by (with_reducible repeat (first | refine blk_drewN ?_ _ | refine blk_drew ?_ | refine blk_alloc ?_ _)); exact BK292.out) hb); have n1_ := Aside0.mk (below_step (by repeat (first | (with_reducible first | exact HB.out | apply below_alloc | apply pw_below_drewN | apply below_drew1 | refine below_set ?_ GE292.out) | exact HB.out)) hb); have n2_ := Aside0.mk (hbox); have n3_ := Aside0.mk ((by rw [hg]; exact (below_size (by repeat (first | (with_reducible first | exact HB.out | apply below_alloc | apply pw_below_drewN | apply below_drew1 | refine below_set ?_ GE292.out) | exact HB.out))) : w.heap.size ≤ gb296)); have n4_ := Aside0.mk ((by rw [hg]; exact (below_size (by repeat (first | (with_reducible first | exact HB.out | apply below_alloc | apply pw_below_drewN | apply below_drew1 | refine below_set ?_ GE292.out) | exact HB.out))) : w.heap.size ≤ gb296)); have n5_ := Aside0.mk ((by rw [hg]; exact Nat.ne_of_lt (blk_lt (g := gb292) (o := .cells #[.string t289, .int .i64 t290] 23 (0, 0)) (by (with_reducible repeat (first | refine blk_drewN ?_ _ | refine blk_drew ?_ | refine blk_alloc ?_ _)); exact BK292.out)) : gb292 ≠ gb296)); have n6_ := Aside0.mk ((by rw [hg]; exact Nat.ne_of_gt (blk_lt (g := gb292) (o := .cells #[.string t289, .int .i64 t290] 23 (0, 0)) (by (with_reducible repeat (first | refine blk_drewN ?_ _ | refine blk_drew ?_ | refine blk_alloc ?_ _)); exact BK292.out)) : gb296 ≠ gb292)); clear BK292; clear HB; have BK292 := n0_; have HB := n1_; have BK296 := n2_; have GW296 := n3_; have GE296 := n4_; have NB292_296 := n5_; have NB296_292 := n6_; clear n0_ n1_ n2_ n3_ n4_ n5_ n6_; clear hb hbox hg; have hnb45 := NB296_292.out; have hnc45 := NB292_296.out; have hcz46_0 : w44.cell? ⟨gb296, 0, none⟩ = some (.string (⟨#[]⟩ : ByteArray)) := (blk_cell BK296.out 0).trans rfl; have hcz46_1 : w44.cell? ⟨gb296, 1, none⟩ = some (.int .i64 0) := (blk_cell BK296.out 1).trans rfl; have hfz46_0 := blk_frozen BK296.out 0; have hfz46_1 := blk_frozen BK296.out 1; have hcz47_0 : w44.cell? ⟨gb292, 0, none⟩ = some (.string t289) := (blk_cell BK292.out 0).trans rfl; have hcz47_1 : w44.cell? ⟨gb292, 1, none⟩ = some (.int .i64 t290) := (blk_cell BK292.out 1).trans rfl; have hfz47_0 := blk_frozen BK292.out 0; have hfz47_1 := blk_frozen BK292.out 1))
    go_ret
    exact ⟨by first | rfl | (simp [errW_none, errW_some] <;> rfl) | (simp [*, errW_none, errW_some] <;> rfl), by repeat (first | (with_reducible first | exact HB.out | apply below_alloc | apply pw_below_drewN | apply below_drew1 | refine below_set ?_ GE292.out | refine below_set ?_ GE296.out) | exact HB.out)⟩
  ·replace c7 := Bool.eq_false_iff.mpr c7
   subst c7
   have H1 : (if (t289.toList == ([] : List UInt8) && (t290 == 0)) = true then (if t291 = 2 then ((supercargolaw01_awake.f k).bind fun t299 => (some t299)) else (some false)) else (some false)) = some r := by rw [if_neg (show ¬ (false = true) by decide)] at H; exact H
   clear H
   have H := H1
   clear H1
   by_cases c48 : (t289.toList == ([] : List UInt8) && (t290 == 0)) = true
   ·rw [if_pos c48] at H
    have c48b0 : (t289.toList == ([] : List UInt8) && (t290 == 0)) = true := c48
    try (have c48b7 : (t289.toList.isEmpty && (t290 == 0)) = true := by simpa using c48)
    (try (have c48b1 : decide (t289.toList = ([] : List UInt8) && (t290 == 0)) = true := by simpa using c48))
    (try (have c48b2 : (t289.toList == ([] : List UInt8) && (t290 == 0)) = true := by simpa using c48))
    clear c48
    by_cases c49 : t291 = 2
    ·rw [if_pos c49] at H
     have c49b0 : (t291 == 2) = true := beq_iff_eq.mpr c49
     have c49b1 : (t291 != 2) = false := bne_eq_false_iff_eq.mpr c49
     clear c49
     replace H := Option.bind_eq_some_iff.mp H
     obtain ⟨t299, A500, H⟩ := H
     replace H : (some t299) = some r := H
     have A50 := Aside0.mk A500
     clear A500
     obtain rfl := Option.some.inj H
     go_enter Tryd.func7, Tryd.ntmps7
     go_wp2_with (first | ((with_reducible refine gate_callee (f := 16) rfl ?_); refine goesL_ (some 13) rfl rfl Tryd.func16 (by kernel_rfl) rfl #[.string a0] rfl (by (try simp only [List.map_toArray, List.map_cons, List.map_nil]); first | done | rfl | (simp only [List.length_drop, List.length_take]; rfl)) ?_; (with_reducible refine (money_Parse.calls k a0 t289 t290 t291 _ ?side1 A5.out).mono ?_); (case side1 => repeat (first | exact HT.out | exact Tabs_below HT.out (by repeat (first | (with_reducible first | exact HB.out | apply below_alloc | apply pw_below_drewN | apply below_drew1) | exact HB.out)) | (with_reducible refine Tabs_drewN ?_ _) | (with_reducible refine Tabs_drew ?_))); rintro e w51 ⟨rfl, hb⟩; refine ⟨_, rfl, ?_⟩; have n0_ := Aside0.mk (below_step (by repeat (first | (with_reducible first | exact HB.out | apply below_alloc | apply pw_below_drewN | apply below_drew1) | exact HB.out)) hb); clear HB; have HB := n0_; clear n0_; (try clear hb); (try clear hb2); (try clear hk); (try clear hi)) | ((with_reducible refine gate_dst (N := 3) rfl ?_); refine box_event ?hg (N := 3) ?hd (cs := #[.string (⟨#[]⟩ : ByteArray), .int .i64 0]) (t := 23) ?hr ?_; (case hd => rfl); (case hg => rfl); (case hr => first | (go_simp; done) | (go_simp; rfl)); intro gb292 hg w52 hbox hb; have n0_ := Aside0.mk (below_step (by repeat (first | (with_reducible first | exact HB.out | apply below_alloc | apply pw_below_drewN | apply below_drew1) | exact HB.out)) hb); have n1_ := Aside0.mk (hbox); have n2_ := Aside0.mk ((by rw [hg]; exact (below_size (by repeat (first | (with_reducible first | exact HB.out | apply below_alloc | apply pw_below_drewN | apply below_drew1) | exact HB.out))) : w.heap.size ≤ gb292)); have n3_ := Aside0.mk ((by rw [hg]; exact (below_size (by repeat (first | (with_reducible first | exact HB.out | apply below_alloc | apply pw_below_drewN | apply below_drew1) | exact HB.out))) : w.heap.size ≤ gb292)); clear HB; have HB := n0_; have BK292 := n1_; have GW292 := n2_; have GE292 := n3_; clear n0_ n1_ n2_ n3_; clear hb hbox hg; have hcz53_0 : w52.cell? ⟨gb292, 0, none⟩ = some (.string (⟨#[]⟩ : ByteArray)) := (blk_cell BK292.out 0).trans rfl; have hcz53_1 : w52.cell? ⟨gb292, 1, none⟩ = some (.int .i64 0) := (blk_cell BK292.out 1).trans rfl; have hfz53_0 := blk_frozen BK292.out 0; have hfz53_1 := blk_frozen BK292.out 1) | ((with_reducible refine gate_callee (f := 18) rfl ?_); refine goesL_ (some 18) rfl rfl Tryd.func18 (by kernel_rfl) rfl #[.string a0] rfl (by (try simp only [List.map_toArray, List.map_cons, List.map_nil]); first | done | rfl | (simp only [List.length_drop, List.length_take]; rfl)) ?_; (with_reducible refine (supercargoref01_Parse.calls k a0 t293 t294 false _ A6.out).mono ?_); rintro e w54 ⟨rfl, hb⟩; refine ⟨_, rfl, ?_⟩; have n0_ := Aside0.mk (blk_below (g := gb292) (o := .cells #[.string t289, .int .i64 t290] 23 (0, 0)) (by (with_reducible repeat (first | refine blk_drewN ?_ _ | refine blk_drew ?_ | refine blk_alloc ?_ _)); refine blk_put (cs := #[.string t289, .int .i64 0]) ?_ 1 _ rfl; (with_reducible repeat (first | refine blk_drewN ?_ _ | refine blk_drew ?_ | refine blk_alloc ?_ _)); refine blk_put (cs := #[.string (⟨#[]⟩ : ByteArray), .int .i64 0]) ?_ 0 _ rfl; (with_reducible repeat (first | refine blk_drewN ?_ _ | refine blk_drew ?_ | refine blk_alloc ?_ _)); exact BK292.out) hb); have n1_ := Aside0.mk (below_step (by repeat (first | (with_reducible first | exact HB.out | apply below_alloc | apply pw_below_drewN | apply below_drew1 | refine below_set ?_ GE292.out) | exact HB.out)) hb); clear BK292; clear HB; have BK292 := n0_; have HB := n1_; clear n0_ n1_; (try clear hb); (try clear hb2); (try clear hk); (try clear hi)) | ((with_reducible refine gate_dst (N := 5) rfl ?_); refine box_event ?hg (N := 5) ?hd (cs := #[.string (⟨#[]⟩ : ByteArray), .int .i64 0]) (t := 23) ?hr ?_; (case hd => rfl); (case hg => rfl); (case hr => first | (go_simp; done) | (go_simp; rfl)); intro gb296 hg w55 hbox hb; have n0_ := Aside0.mk (blk_below (g := gb292) (o := .cells #[.string t289, .int .i64 t290] 23 (0, 0)) (by (with_reducible repeat (first | refine blk_drewN ?_ _ | refine blk_drew ?_ | refine blk_alloc ?_ _)); exact BK292.out) hb); have n1_ := Aside0.mk (below_step (by repeat (first | (with_reducible first | exact HB.out | apply below_alloc | apply pw_below_drewN | apply below_drew1 | refine below_set ?_ GE292.out) | exact HB.out)) hb); have n2_ := Aside0.mk (hbox); have n3_ := Aside0.mk ((by rw [hg]; exact (below_size (by repeat (first | (with_reducible first | exact HB.out | apply below_alloc | apply pw_below_drewN | apply below_drew1 | refine below_set ?_ GE292.out) | exact HB.out))) : w.heap.size ≤ gb296)); have n4_ := Aside0.mk ((by rw [hg]; exact (below_size (by repeat (first | (with_reducible first | exact HB.out | apply below_alloc | apply pw_below_drewN | apply below_drew1 | refine below_set ?_ GE292.out) | exact HB.out))) : w.heap.size ≤ gb296)); have n5_ := Aside0.mk ((by rw [hg]; exact Nat.ne_of_lt (blk_lt (g := gb292) (o := .cells #[.string t289, .int .i64 t290] 23 (0, 0)) (by (with_reducible repeat (first | refine blk_drewN ?_ _ | refine blk_drew ?_ | refine blk_alloc ?_ _)); exact BK292.out)) : gb292 ≠ gb296)); have n6_ := Aside0.mk ((by rw [hg]; exact Nat.ne_of_gt (blk_lt (g := gb292) (o := .cells #[.string t289, .int .i64 t290] 23 (0, 0)) (by (with_reducible repeat (first | refine blk_drewN ?_ _ | refine blk_drew ?_ | refine blk_alloc ?_ _)); exact BK292.out)) : gb296 ≠ gb292)); clear BK292; clear HB; have BK292 := n0_; have HB := n1_; have BK296 := n2_; have GW296 := n3_; have GE296 := n4_; have NB292_296 := n5_; have NB296_292 := n6_; clear n0_ n1_ n2_ n3_ n4_ n5_ n6_; clear hb hbox hg; have hnb56 := NB296_292.out; have hnc56 := NB292_296.out; have hcz57_0 : w55.cell? ⟨gb296, 0, none⟩ = some (.string (⟨#[]⟩ : ByteArray)) := (blk_cell BK296.out 0).trans rfl; have hcz57_1 : w55.cell? ⟨gb296, 1, none⟩ = some (.int .i64 0) := (blk_cell BK296.out 1).trans rfl; have hfz57_0 := blk_frozen BK296.out 0; have hfz57_1 := blk_frozen BK296.out 1; have hcz58_0 : w55.cell? ⟨gb292, 0, none⟩ = some (.string t289) := (blk_cell BK292.out 0).trans rfl; have hcz58_1 : w55.cell? ⟨gb292, 1, none⟩ = some (.int .i64 t290) := (blk_cell BK292.out 1).trans rfl; have hfz58_0 := blk_frozen BK292.out 0; have hfz58_1 := blk_frozen BK292.out 1) | (go_at_call 13; (with_reducible refine (supercargolaw01_awake.calls k  t299 _ ?side1 A50.out).mono ?_); (case side1 => repeat (first | exact HT.out | exact Tabs_below HT.out (by repeat (first | (with_reducible first | exact HB.out | apply below_alloc | apply pw_below_drewN | apply below_drew1 | refine below_set ?_ GE292.out | refine below_set ?_ GE296.out) | exact HB.out)) | (with_reducible refine Tabs_drewN ?_ _) | (with_reducible refine Tabs_drew ?_))); rintro e w59 ⟨rfl, hb⟩; have n0_ := Aside0.mk (blk_below (g := gb292) (o := .cells #[.string t289, .int .i64 t290] 23 (0, 0)) (by (with_reducible repeat (first | refine blk_drewN ?_ _ | refine blk_drew ?_ | refine blk_alloc ?_ _)); refine blk_far ?_ NB292_296.out _; (with_reducible repeat (first | refine blk_drewN ?_ _ | refine blk_drew ?_ | refine blk_alloc ?_ _)); refine blk_far ?_ NB292_296.out _; (with_reducible repeat (first | refine blk_drewN ?_ _ | refine blk_drew ?_ | refine blk_alloc ?_ _)); exact BK292.out) hb); have n1_ := Aside0.mk (blk_below (g := gb296) (o := .cells #[.string t293, .int .i64 t294] 23 (0, 0)) (by (with_reducible repeat (first | refine blk_drewN ?_ _ | refine blk_drew ?_ | refine blk_alloc ?_ _)); refine blk_put (cs := #[.string t293, .int .i64 0]) ?_ 1 _ rfl; (with_reducible repeat (first | refine blk_drewN ?_ _ | refine blk_drew ?_ | refine blk_alloc ?_ _)); refine blk_put (cs := #[.string (⟨#[]⟩ : ByteArray), .int .i64 0]) ?_ 0 _ rfl; (with_reducible repeat (first | refine blk_drewN ?_ _ | refine blk_drew ?_ | refine blk_alloc ?_ _)); exact BK296.out) hb); have n2_ := Aside0.mk (below_step (by repeat (first | (with_reducible first | exact HB.out | apply below_alloc | apply pw_below_drewN | apply below_drew1 | refine below_set ?_ GE292.out | refine below_set ?_ GE296.out) | exact HB.out)) hb); clear BK292; clear BK296; clear HB; have BK292 := n0_; have BK296 := n1_; have HB := n2_; clear n0_ n1_ n2_; (try clear hb); (try clear hb2); (try clear hk); (try clear hi)))
     go_ret
     exact ⟨by first | rfl | (simp [errW_none, errW_some] <;> rfl) | (simp [*, errW_none, errW_some] <;> rfl), by repeat (first | (with_reducible first | exact HB.out | apply below_alloc | apply pw_below_drewN | apply below_drew1 | refine below_set ?_ GE292.out | refine below_set ?_ GE296.out) | exact HB.out)⟩
    ·rw [if_neg c49] at H
     have c49b0 : (t291 == 2) = false := beq_eq_false_iff_ne.mpr c49
     have c49b1 : (t291 != 2) = true := bne_iff_ne.mpr c49
     obtain rfl := Option.some.inj H
     go_enter Tryd.func7, Tryd.ntmps7
     go_wp2_with (first | ((with_reducible refine gate_callee (f := 16) rfl ?_); refine goesL_ (some 13) rfl rfl Tryd.func16 (by kernel_rfl) rfl #[.string a0] rfl (by (try simp only [List.map_toArray, List.map_cons, List.map_nil]); first | done | rfl | (simp only [List.length_drop, List.length_take]; rfl)) ?_; (with_reducible refine (money_Parse.calls k a0 t289 t290 t291 _ ?side1 A5.out).mono ?_); (case side1 => repeat (first | exact HT.out | exact Tabs_below HT.out (by repeat (first | (with_reducible first | exact HB.out | apply below_alloc | apply pw_below_drewN | apply below_drew1) | exact HB.out)) | (with_reducible refine Tabs_drewN ?_ _) | (with_reducible refine Tabs_drew ?_))); rintro e w60 ⟨rfl, hb⟩; refine ⟨_, rfl, ?_⟩; have n0_ := Aside0.mk (below_step (by repeat (first | (with_reducible first | exact HB.out | apply below_alloc | apply pw_below_drewN | apply below_drew1) | exact HB.out)) hb); clear HB; have HB := n0_; clear n0_; (try clear hb); (try clear hb2); (try clear hk); (try clear hi)) | ((with_reducible refine gate_dst (N := 3) rfl ?_); refine box_event ?hg (N := 3) ?hd (cs := #[.string (⟨#[]⟩ : ByteArray), .int .i64 0]) (t := 23) ?hr ?_; (case hd => rfl); (case hg => rfl); (case hr => first | (go_simp; done) | (go_simp; rfl)); intro gb292 hg w61 hbox hb; have n0_ := Aside0.mk (below_step (by repeat (first | (with_reducible first | exact HB.out | apply below_alloc | apply pw_below_drewN | apply below_drew1) | exact HB.out)) hb); have n1_ := Aside0.mk (hbox); have n2_ := Aside0.mk ((by rw [hg]; exact (below_size (by repeat (first | (with_reducible first | exact HB.out | apply below_alloc | apply pw_below_drewN | apply below_drew1) | exact HB.out))) : w.heap.size ≤ gb292)); have n3_ := Aside0.mk ((by rw [hg]; exact (below_size (by repeat (first | (with_reducible first | exact HB.out | apply below_alloc | apply pw_below_drewN | apply below_drew1) | exact HB.out))) : w.heap.size ≤ gb292)); clear HB; have HB := n0_; have BK292 := n1_; have GW292 := n2_; have GE292 := n3_; clear n0_ n1_ n2_ n3_; clear hb hbox hg; have hcz62_0 : w61.cell? ⟨gb292, 0, none⟩ = some (.string (⟨#[]⟩ : ByteArray)) := (blk_cell BK292.out 0).trans rfl; have hcz62_1 : w61.cell? ⟨gb292, 1, none⟩ = some (.int .i64 0) := (blk_cell BK292.out 1).trans rfl; have hfz62_0 := blk_frozen BK292.out 0; have hfz62_1 := blk_frozen BK292.out 1) | ((with_reducible refine gate_callee (f := 18) rfl ?_); refine goesL_ (some 18) rfl rfl Tryd.func18 (by kernel_rfl) rfl #[.string a0] rfl (by (try simp only [List.map_toArray, List.map_cons, List.map_nil]); first | done | rfl | (simp only [List.length_drop, List.length_take]; rfl)) ?_; (with_reducible refine (supercargoref01_Parse.calls k a0 t293 t294 false _ A6.out).mono ?_); rintro e w63 ⟨rfl, hb⟩; refine ⟨_, rfl, ?_⟩; have n0_ := Aside0.mk (blk_below (g := gb292) (o := .cells #[.string t289, .int .i64 t290] 23 (0, 0)) (by (with_reducible repeat (first | refine blk_drewN ?_ _ | refine blk_drew ?_ | refine blk_alloc ?_ _)); refine blk_put (cs := #[.string t289, .int .i64 0]) ?_ 1 _ rfl; (with_reducible repeat (first | refine blk_drewN ?_ _ | refine blk_drew ?_ | refine blk_alloc ?_ _)); refine blk_put (cs := #[.string (⟨#[]⟩ : ByteArray), .int .i64 0]) ?_ 0 _ rfl; (with_reducible repeat (first | refine blk_drewN ?_ _ | refine blk_drew ?_ | refine blk_alloc ?_ _)); exact BK292.out) hb); have n1_ := Aside0.mk (below_step (by repeat (first | (with_reducible first | exact HB.out | apply below_alloc | apply pw_below_drewN | apply below_drew1 | refine below_set ?_ GE292.out) | exact HB.out)) hb); clear BK292; clear HB; have BK292 := n0_; have HB := n1_; clear n0_ n1_; (try clear hb); (try clear hb2); (try clear hk); (try clear hi)) | ((with_reducible refine gate_dst (N := 5) rfl ?_); refine box_event ?hg (N := 5) ?hd (cs := #[.string (⟨#[]⟩ : ByteArray), .int .i64 0]) (t := 23) ?hr ?_; (case hd => rfl); (case hg => rfl); (case hr => first | (go_simp; done) | (go_simp; rfl)); intro gb296 hg w64 hbox hb; have n0_ := Aside0.mk (blk_below (g := gb292) (o := .cells #[.string t289, .int .i64 t290] 23 (0, 0)) (by (with_reducible repeat (first | refine blk_drewN ?_ _ | refine blk_drew ?_ | refine blk_alloc ?_ _)); exact BK292.out) hb); have n1_ := Aside0.mk (below_step (by repeat (first | (with_reducible first | exact HB.out | apply below_alloc | apply pw_below_drewN | apply below_drew1 | refine below_set ?_ GE292.out) | exact HB.out)) hb); have n2_ := Aside0.mk (hbox); have n3_ := Aside0.mk ((by rw [hg]; exact (below_size (by repeat (first | (with_reducible first | exact HB.out | apply below_alloc | apply pw_below_drewN | apply below_drew1 | refine below_set ?_ GE292.out) | exact HB.out))) : w.heap.size ≤ gb296)); have n4_ := Aside0.mk ((by rw [hg]; exact (below_size (by repeat (first | (with_reducible first | exact HB.out | apply below_alloc | apply pw_below_drewN | apply below_drew1 | refine below_set ?_ GE292.out) | exact HB.out))) : w.heap.size ≤ gb296)); have n5_ := Aside0.mk ((by rw [hg]; exact Nat.ne_of_lt (blk_lt (g := gb292) (o := .cells #[.string t289, .int .i64 t290] 23 (0, 0)) (by (with_reducible repeat (first | refine blk_drewN ?_ _ | refine blk_drew ?_ | refine blk_alloc ?_ _)); exact BK292.out)) : gb292 ≠ gb296)); have n6_ := Aside0.mk ((by rw [hg]; exact Nat.ne_of_gt (blk_lt (g := gb292) (o := .cells #[.string t289, .int .i64 t290] 23 (0, 0)) (by (with_reducible repeat (first | refine blk_drewN ?_ _ | refine blk_drew ?_ | refine blk_alloc ?_ _)); exact BK292.out)) : gb296 ≠ gb292)); clear BK292; clear HB; have BK292 := n0_; have HB := n1_; have BK296 := n2_; have GW296 := n3_; have GE296 := n4_; have NB292_296 := n5_; have NB296_292 := n6_; clear n0_ n1_ n2_ n3_ n4_ n5_ n6_; clear hb hbox hg; have hnb65 := NB296_292.out; have hnc65 := NB292_296.out; have hcz66_0 : w64.cell? ⟨gb296, 0, none⟩ = some (.string (⟨#[]⟩ : ByteArray)) := (blk_cell BK296.out 0).trans rfl; have hcz66_1 : w64.cell? ⟨gb296, 1, none⟩ = some (.int .i64 0) := (blk_cell BK296.out 1).trans rfl; have hfz66_0 := blk_frozen BK296.out 0; have hfz66_1 := blk_frozen BK296.out 1; have hcz67_0 : w64.cell? ⟨gb292, 0, none⟩ = some (.string t289) := (blk_cell BK292.out 0).trans rfl; have hcz67_1 : w64.cell? ⟨gb292, 1, none⟩ = some (.int .i64 t290) := (blk_cell BK292.out 1).trans rfl; have hfz67_0 := blk_frozen BK292.out 0; have hfz67_1 := blk_frozen BK292.out 1))
     go_ret
     exact ⟨by first | rfl | (simp [errW_none, errW_some] <;> rfl) | (simp [*, errW_none, errW_some] <;> rfl), by repeat (first | (with_reducible first | exact HB.out | apply below_alloc | apply pw_below_drewN | apply below_drew1 | refine below_set ?_ GE292.out | refine below_set ?_ GE296.out) | exact HB.out)⟩
   ·rw [if_neg c48] at H
    have c48b0 : (t289.toList == ([] : List UInt8) && (t290 == 0)) = false := by simpa using c48
    try (have c48b7 : (t289.toList.isEmpty && (t290 == 0)) = false := by simpa using c48)
    (try (have c48b1 : decide (t289.toList = ([] : List UInt8) && (t290 == 0)) = false := by simpa using c48))
    (try (have c48b2 : (t289.toList == ([] : List UInt8) && (t290 == 0)) = false := by simpa using c48))
    (try (have c48b3 : ¬ (t289.toList = ([] : List UInt8) && (t290 == 0)) := by simpa using c48))
    clear c48
    obtain rfl := Option.some.inj H
    go_enter Tryd.func7, Tryd.ntmps7
    go_wp2_with (first | ((with_reducible refine gate_callee (f := 16) rfl ?_); refine goesL_ (some 13) rfl rfl Tryd.func16 (by kernel_rfl) rfl #[.string a0] rfl (by (try simp only [List.map_toArray, List.map_cons, List.map_nil]); first | done | rfl | (simp only [List.length_drop, List.length_take]; rfl)) ?_; (with_reducible refine (money_Parse.calls k a0 t289 t290 t291 _ ?side1 A5.out).mono ?_); (case side1 => repeat (first | exact HT.out | exact Tabs_below HT.out (by repeat (first | (with_reducible first | exact HB.out | apply below_alloc | apply pw_below_drewN | apply below_drew1) | exact HB.out)) | (with_reducible refine Tabs_drewN ?_ _) | (with_reducible refine Tabs_drew ?_))); rintro e w68 ⟨rfl, hb⟩; refine ⟨_, rfl, ?_⟩; have n0_ := Aside0.mk (below_step (by repeat (first | (with_reducible first | exact HB.out | apply below_alloc | apply pw_below_drewN | apply below_drew1) | exact HB.out)) hb); clear HB; have HB := n0_; clear n0_; (try clear hb); (try clear hb2); (try clear hk); (try clear hi)) | ((with_reducible refine gate_dst (N := 3) rfl ?_); refine box_event ?hg (N := 3) ?hd (cs := #[.string (⟨#[]⟩ : ByteArray), .int .i64 0]) (t := 23) ?hr ?_; (case hd => rfl); (case hg => rfl); (case hr => first | (go_simp; done) | (go_simp; rfl)); intro gb292 hg w69 hbox hb; have n0_ := Aside0.mk (below_step (by repeat (first | (with_reducible first | exact HB.out | apply below_alloc | apply pw_below_drewN | apply below_drew1) | exact HB.out)) hb); have n1_ := Aside0.mk (hbox); have n2_ := Aside0.mk ((by rw [hg]; exact (below_size (by repeat (first | (with_reducible first | exact HB.out | apply below_alloc | apply pw_below_drewN | apply below_drew1) | exact HB.out))) : w.heap.size ≤ gb292)); have n3_ := Aside0.mk ((by rw [hg]; exact (below_size (by repeat (first | (with_reducible first | exact HB.out | apply below_alloc | apply pw_below_drewN | apply below_drew1) | exact HB.out))) : w.heap.size ≤ gb292)); clear HB; have HB := n0_; have BK292 := n1_; have GW292 := n2_; have GE292 := n3_; clear n0_ n1_ n2_ n3_; clear hb hbox hg; have hcz70_0 : w69.cell? ⟨gb292, 0, none⟩ = some (.string (⟨#[]⟩ : ByteArray)) := (blk_cell BK292.out 0).trans rfl; have hcz70_1 : w69.cell? ⟨gb292, 1, none⟩ = some (.int .i64 0) := (blk_cell BK292.out 1).trans rfl; have hfz70_0 := blk_frozen BK292.out 0; have hfz70_1 := blk_frozen BK292.out 1) | ((with_reducible refine gate_callee (f := 18) rfl ?_); refine goesL_ (some 18) rfl rfl Tryd.func18 (by kernel_rfl) rfl #[.string a0] rfl (by (try simp only [List.map_toArray, List.map_cons, List.map_nil]); first | done | rfl | (simp only [List.length_drop, List.length_take]; rfl)) ?_; (with_reducible refine (supercargoref01_Parse.calls k a0 t293 t294 false _ A6.out).mono ?_); rintro e w71 ⟨rfl, hb⟩; refine ⟨_, rfl, ?_⟩; have n0_ := Aside0.mk (blk_below (g := gb292) (o := .cells #[.string t289, .int .i64 t290] 23 (0, 0)) (by (with_reducible repeat (first | refine blk_drewN ?_ _ | refine blk_drew ?_ | refine blk_alloc ?_ _)); refine blk_put (cs := #[.string t289, .int .i64 0]) ?_ 1 _ rfl; (with_reducible repeat (first | refine blk_drewN ?_ _ | refine blk_drew ?_ | refine blk_alloc ?_ _)); refine blk_put (cs := #[.string (⟨#[]⟩ : ByteArray), .int .i64 0]) ?_ 0 _ rfl; (with_reducible repeat (first | refine blk_drewN ?_ _ | refine blk_drew ?_ | refine blk_alloc ?_ _)); exact BK292.out) hb); have n1_ := Aside0.mk (below_step (by repeat (first | (with_reducible first | exact HB.out | apply below_alloc | apply pw_below_drewN | apply below_drew1 | refine below_set ?_ GE292.out) | exact HB.out)) hb); clear BK292; clear HB; have BK292 := n0_; have HB := n1_; clear n0_ n1_; (try clear hb); (try clear hb2); (try clear hk); (try clear hi)) | ((with_reducible refine gate_dst (N := 5) rfl ?_); refine box_event ?hg (N := 5) ?hd (cs := #[.string (⟨#[]⟩ : ByteArray), .int .i64 0]) (t := 23) ?hr ?_; (case hd => rfl); (case hg => rfl); (case hr => first | (go_simp; done) | (go_simp; rfl)); intro gb296 hg w72 hbox hb; have n0_ := Aside0.mk (blk_below (g := gb292) (o := .cells #[.string t289, .int .i64 t290] 23 (0, 0)) (by (with_reducible repeat (first | refine blk_drewN ?_ _ | refine blk_drew ?_ | refine blk_alloc ?_ _)); exact BK292.out) hb); have n1_ := Aside0.mk (below_step (by repeat (first | (with_reducible first | exact HB.out | apply below_alloc | apply pw_below_drewN | apply below_drew1 | refine below_set ?_ GE292.out) | exact HB.out)) hb); have n2_ := Aside0.mk (hbox); have n3_ := Aside0.mk ((by rw [hg]; exact (below_size (by repeat (first | (with_reducible first | exact HB.out | apply below_alloc | apply pw_below_drewN | apply below_drew1 | refine below_set ?_ GE292.out) | exact HB.out))) : w.heap.size ≤ gb296)); have n4_ := Aside0.mk ((by rw [hg]; exact (below_size (by repeat (first | (with_reducible first | exact HB.out | apply below_alloc | apply pw_below_drewN | apply below_drew1 | refine below_set ?_ GE292.out) | exact HB.out))) : w.heap.size ≤ gb296)); have n5_ := Aside0.mk ((by rw [hg]; exact Nat.ne_of_lt (blk_lt (g := gb292) (o := .cells #[.string t289, .int .i64 t290] 23 (0, 0)) (by (with_reducible repeat (first | refine blk_drewN ?_ _ | refine blk_drew ?_ | refine blk_alloc ?_ _)); exact BK292.out)) : gb292 ≠ gb296)); have n6_ := Aside0.mk ((by rw [hg]; exact Nat.ne_of_gt (blk_lt (g := gb292) (o := .cells #[.string t289, .int .i64 t290] 23 (0, 0)) (by (with_reducible repeat (first | refine blk_drewN ?_ _ | refine blk_drew ?_ | refine blk_alloc ?_ _)); exact BK292.out)) : gb296 ≠ gb292)); clear BK292; clear HB; have BK292 := n0_; have HB := n1_; have BK296 := n2_; have GW296 := n3_; have GE296 := n4_; have NB292_296 := n5_; have NB296_292 := n6_; clear n0_ n1_ n2_ n3_ n4_ n5_ n6_; clear hb hbox hg; have hnb73 := NB296_292.out; have hnc73 := NB292_296.out; have hcz74_0 : w72.cell? ⟨gb296, 0, none⟩ = some (.string (⟨#[]⟩ : ByteArray)) := (blk_cell BK296.out 0).trans rfl; have hcz74_1 : w72.cell? ⟨gb296, 1, none⟩ = some (.int .i64 0) := (blk_cell BK296.out 1).trans rfl; have hfz74_0 := blk_frozen BK296.out 0; have hfz74_1 := blk_frozen BK296.out 1; have hcz75_0 : w72.cell? ⟨gb292, 0, none⟩ = some (.string t289) := (blk_cell BK292.out 0).trans rfl; have hcz75_1 : w72.cell? ⟨gb292, 1, none⟩ = some (.int .i64 t290) := (blk_cell BK292.out 1).trans rfl; have hfz75_0 := blk_frozen BK292.out 0; have hfz75_1 := blk_frozen BK292.out 1))
    go_ret
    exact ⟨by first | rfl | (simp [errW_none, errW_some] <;> rfl) | (simp [*, errW_none, errW_some] <;> rfl), by repeat (first | (with_reducible first | exact HB.out | apply below_alloc | apply pw_below_drewN | apply below_drew1 | refine below_set ?_ GE292.out | refine below_set ?_ GE296.out) | exact HB.out)⟩

end Go.Proofs.YtggjphcikcflkaaDoor.P
