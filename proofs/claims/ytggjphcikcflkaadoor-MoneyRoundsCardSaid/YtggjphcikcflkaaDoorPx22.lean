-- Written by the session's own program xprint.py, which runs the kit's print over functions given by hand.
import Derived.Test.YtggjphcikcflkaaDoorPx0
import Derived.Test.YtggjphcikcflkaaDoorPx1
import Derived.Test.YtggjphcikcflkaaDoorPx8
import Derived.Test.YtggjphcikcflkaaDoorPx17
namespace Go.Proofs.YtggjphcikcflkaaDoor.P
open Go.RowKit Go.Proofs.YtggjphcikcflkaaDoorW.PrintWords Go.Proofs.YtggjphcikcflkaaDoorW.PrintLast Go.Proofs.YtggjphcikcflkaaDoorW.PrintMore
attribute [local go_sem] max2_int min2_int max_two min_two max_three min_three max_four min_four   -- for this text's walks alone
open List renaming setIfInBounds_toArray → sA, set_cons_zero → s0, set_cons_succ → s1
set_option linter.unusedVariables false
set_option linter.unusedSimpArgs false

attribute [local go_sem high] eqA23
/-! ### supercargolaw01_MoneyRounds: function 4 -/
mutual
def supercargolaw01_MoneyRounds.j0 : Nat → Bool → ByteArray → Int → Int → Int → Option (Bool)
 | 0, _, _, _, _, _ => none
 | k + 1, x22, x212000, x212001, x213000, x213001 => if x22 = true then ((supercargolaw01_awake.f k).bind fun t214 => (some t214)) else ((money_Scale.f k x212000 x212001 x213000 x213001 0).bind fun bt215 => ((money_Scale.f k x212000 x212001 x213000 x213001 1).bind fun bt219 => ((money_Scale.f k x212000 x212001 x213000 x213001 2).bind fun bt223 => (if bt219.2.2 = true then (if bt215.2.2 = true then (if bt223.2.2 = true then (if bt215.2.1 > bt219.2.1 then (supercargolaw01_MoneyRounds.j2 k true x212000 x212001 x213000 x213001 bt215.1 bt215.2.1 bt223.1 bt223.2.1) else (if bt215.2.1 < (wrap64 (bt219.2.1 - 1)) then (supercargolaw01_MoneyRounds.j2 k true x212000 x212001 x213000 x213001 bt215.1 bt215.2.1 bt223.1 bt223.2.1) else (if (!(bt223.1.toList == bt215.1.toList) || (!(bt223.2.1 == bt215.2.1))) = true then (supercargolaw01_MoneyRounds.j2 k (!(bt223.1.toList == bt219.1.toList) || (!(bt223.2.1 == bt219.2.1))) x212000 x212001 x213000 x213001 bt215.1 bt215.2.1 bt223.1 bt223.2.1) else (supercargolaw01_MoneyRounds.j2 k false x212000 x212001 x213000 x213001 bt215.1 bt215.2.1 bt223.1 bt223.2.1)))) else (supercargolaw01_MoneyRounds.j2 k true x212000 x212001 x213000 x213001 bt215.1 bt215.2.1 bt223.1 bt223.2.1)) else (supercargolaw01_MoneyRounds.j2 k true x212000 x212001 x213000 x213001 bt215.1 bt215.2.1 bt223.1 bt223.2.1)) else (if bt215.2.2 = true then (if bt215.2.1 = 1099511627776 then (if bt223.2.2 = true then (if (bt223.1.toList == bt215.1.toList && (bt223.2.1 == bt215.2.1)) = true then ((supercargolaw01_awake.f k).bind fun t227 => (supercargolaw01_MoneyRounds.j1 k t227)) else (supercargolaw01_MoneyRounds.j1 k false)) else ((supercargolaw01_awake.f k).bind fun t228 => (supercargolaw01_MoneyRounds.j1 k t228))) else (supercargolaw01_MoneyRounds.j1 k false)) else (if bt223.2.2 = true then (if (bt223.1.toList == bt215.1.toList && (bt223.2.1 == bt215.2.1)) = true then ((supercargolaw01_awake.f k).bind fun t229 => (supercargolaw01_MoneyRounds.j1 k t229)) else (supercargolaw01_MoneyRounds.j1 k false)) else ((supercargolaw01_awake.f k).bind fun t230 => (supercargolaw01_MoneyRounds.j1 k t230))))))))
def supercargolaw01_MoneyRounds.j2 : Nat → Bool → ByteArray → Int → Int → Int → ByteArray → Int → ByteArray → Int → Option (Bool)
 | 0, _, _, _, _, _, _, _, _, _ => none
 | k + 1, x93, x212000, x212001, x213000, x213001, x219000, x219001, x227000, x227001 => if x93 = true then (some false) else ((money_Scale.f k x212000 (wrap64 (-x212001)) x213000 x213001 0).bind fun bt231 => ((money_Scale.f k x212000 (wrap64 (-x212001)) x213000 x213001 2).bind fun bt235 => (if bt231.2.2 = true then (if bt235.2.2 = true then (if bt231.2.1 = (wrap64 (-x219001)) then (if bt235.2.1 = (wrap64 (-x227001)) then ((supercargolaw01_awake.f k).bind fun t239 => (supercargolaw01_MoneyRounds.j3 k t239)) else (supercargolaw01_MoneyRounds.j3 k false)) else (supercargolaw01_MoneyRounds.j3 k false)) else (supercargolaw01_MoneyRounds.j3 k false)) else (supercargolaw01_MoneyRounds.j3 k false))))
def supercargolaw01_MoneyRounds.j3 : Nat → Bool → Option (Bool)
 | 0, _ => none
 | k + 1, x4 => some x4
def supercargolaw01_MoneyRounds.j1 : Nat → Bool → Option (Bool)
 | 0, _ => none
 | k + 1, x4 => some x4
end
def supercargolaw01_MoneyRounds.f (k : Nat) (a0_0 : ByteArray) (a0_1 : Int) (a1_0 : Int) (a1_1 : Int) : Option (Bool) := (supercargoref01_May.f k a0_0 a0_1).bind fun t213 => (if t213 = true then (supercargolaw01_MoneyRounds.j0 k (decide (a0_1 < 0)) a0_0 a0_1 a1_0 a1_1) else (supercargolaw01_MoneyRounds.j0 k true a0_0 a0_1 a1_0 a1_1))
theorem supercargolaw01_MoneyRounds.mono_l : ∀ k, (∀ y0 y1 y2 y3 y4, LeO (supercargolaw01_MoneyRounds.j0 k y0 y1 y2 y3 y4) (supercargolaw01_MoneyRounds.j0 (k + 1) y0 y1 y2 y3 y4)) ∧ (∀ y0 y1 y2 y3 y4 y5 y6 y7 y8, LeO (supercargolaw01_MoneyRounds.j2 k y0 y1 y2 y3 y4 y5 y6 y7 y8) (supercargolaw01_MoneyRounds.j2 (k + 1) y0 y1 y2 y3 y4 y5 y6 y7 y8)) ∧ (∀ y0, LeO (supercargolaw01_MoneyRounds.j3 k y0) (supercargolaw01_MoneyRounds.j3 (k + 1) y0)) ∧ (∀ y0, LeO (supercargolaw01_MoneyRounds.j1 k y0) (supercargolaw01_MoneyRounds.j1 (k + 1) y0))
 | 0 => ⟨fun _ _ _ _ _ r h => by simp [supercargolaw01_MoneyRounds.j0] at h, fun _ _ _ _ _ _ _ _ _ r h => by simp [supercargolaw01_MoneyRounds.j2] at h, fun _ r h => by simp [supercargolaw01_MoneyRounds.j3] at h, fun _ r h => by simp [supercargolaw01_MoneyRounds.j1] at h⟩
 | k + 1 => by
  obtain ⟨ih0, ih1, ih2, ih3⟩ := supercargolaw01_MoneyRounds.mono_l k
  refine ⟨?_, ?_, ?_, ?_⟩
  ·intro y0 y1 y2 y3 y4
   unfold supercargolaw01_MoneyRounds.j0
   repeat' first
   | (with_reducible exact ih0 _ _ _ _ _)
   | (with_reducible exact ih1 _ _ _ _ _ _ _ _ _)
   | (with_reducible exact ih2 _)
   | (with_reducible exact ih3 _)
   | (with_reducible exact money_Scale.mono _ _ _ _ _ _)
   | (with_reducible exact supercargolaw01_awake.mono _)
   | (with_reducible exact supercargoref01_May.mono _ _ _)
   | (with_reducible exact LeO.refl _)
   | (with_reducible exact LeO.none _)
   | (with_reducible refine LeO.ite ?_ ?_)
   | (with_reducible refine LeO.bind ?_ (fun _ => ?_))
   | exact ih0 _ _ _ _ _
   | exact ih1 _ _ _ _ _ _ _ _ _
   | exact ih2 _
   | exact ih3 _
   | exact money_Scale.mono _ _ _ _ _ _
   | exact supercargolaw01_awake.mono _
   | exact supercargoref01_May.mono _ _ _
   | exact LeO.none _
   | refine LeO.ite ?_ ?_
   | refine LeO.bind ?_ (fun _ => ?_)
  ·intro y0 y1 y2 y3 y4 y5 y6 y7 y8
   unfold supercargolaw01_MoneyRounds.j2
   repeat' first
   | (with_reducible exact ih0 _ _ _ _ _)
   | (with_reducible exact ih1 _ _ _ _ _ _ _ _ _)
   | (with_reducible exact ih2 _)
   | (with_reducible exact ih3 _)
   | (with_reducible exact money_Scale.mono _ _ _ _ _ _)
   | (with_reducible exact supercargolaw01_awake.mono _)
   | (with_reducible exact supercargoref01_May.mono _ _ _)
   | (with_reducible exact LeO.refl _)
   | (with_reducible exact LeO.none _)
   | (with_reducible refine LeO.ite ?_ ?_)
   | (with_reducible refine LeO.bind ?_ (fun _ => ?_))
   | exact ih0 _ _ _ _ _
   | exact ih1 _ _ _ _ _ _ _ _ _
   | exact ih2 _
   | exact ih3 _
   | exact money_Scale.mono _ _ _ _ _ _
   | exact supercargolaw01_awake.mono _
   | exact supercargoref01_May.mono _ _ _
   | exact LeO.none _
   | refine LeO.ite ?_ ?_
   | refine LeO.bind ?_ (fun _ => ?_)
  ·intro y0
   unfold supercargolaw01_MoneyRounds.j3
   repeat' first
   | (with_reducible exact ih0 _ _ _ _ _)
   | (with_reducible exact ih1 _ _ _ _ _ _ _ _ _)
   | (with_reducible exact ih2 _)
   | (with_reducible exact ih3 _)
   | (with_reducible exact money_Scale.mono _ _ _ _ _ _)
   | (with_reducible exact supercargolaw01_awake.mono _)
   | (with_reducible exact supercargoref01_May.mono _ _ _)
   | (with_reducible exact LeO.refl _)
   | (with_reducible exact LeO.none _)
   | (with_reducible refine LeO.ite ?_ ?_)
   | (with_reducible refine LeO.bind ?_ (fun _ => ?_))
   | exact ih0 _ _ _ _ _
   | exact ih1 _ _ _ _ _ _ _ _ _
   | exact ih2 _
   | exact ih3 _
   | exact money_Scale.mono _ _ _ _ _ _
   | exact supercargolaw01_awake.mono _
   | exact supercargoref01_May.mono _ _ _
   | exact LeO.none _
   | refine LeO.ite ?_ ?_
   | refine LeO.bind ?_ (fun _ => ?_)
  ·intro y0
   unfold supercargolaw01_MoneyRounds.j1
   repeat' first
   | (with_reducible exact ih0 _ _ _ _ _)
   | (with_reducible exact ih1 _ _ _ _ _ _ _ _ _)
   | (with_reducible exact ih2 _)
   | (with_reducible exact ih3 _)
   | (with_reducible exact money_Scale.mono _ _ _ _ _ _)
   | (with_reducible exact supercargolaw01_awake.mono _)
   | (with_reducible exact supercargoref01_May.mono _ _ _)
   | (with_reducible exact LeO.refl _)
   | (with_reducible exact LeO.none _)
   | (with_reducible refine LeO.ite ?_ ?_)
   | (with_reducible refine LeO.bind ?_ (fun _ => ?_))
   | exact ih0 _ _ _ _ _
   | exact ih1 _ _ _ _ _ _ _ _ _
   | exact ih2 _
   | exact ih3 _
   | exact money_Scale.mono _ _ _ _ _ _
   | exact supercargolaw01_awake.mono _
   | exact supercargoref01_May.mono _ _ _
   | exact LeO.none _
   | refine LeO.ite ?_ ?_
   | refine LeO.bind ?_ (fun _ => ?_)
theorem supercargolaw01_MoneyRounds.mono : ∀ a0 a1 a2 a3 k, LeO (supercargolaw01_MoneyRounds.f k a0 a1 a2 a3) (supercargolaw01_MoneyRounds.f (k + 1) a0 a1 a2 a3) := by
 intro a0 a1 a2 a3 k
 obtain ⟨ih0, ih1, ih2, ih3⟩ := supercargolaw01_MoneyRounds.mono_l k
 unfold supercargolaw01_MoneyRounds.f
 repeat' first
   | (with_reducible exact ih0 _ _ _ _ _)
   | (with_reducible exact ih1 _ _ _ _ _ _ _ _ _)
   | (with_reducible exact ih2 _)
   | (with_reducible exact ih3 _)
   | (with_reducible exact money_Scale.mono _ _ _ _ _ _)
   | (with_reducible exact supercargolaw01_awake.mono _)
   | (with_reducible exact supercargoref01_May.mono _ _ _)
   | (with_reducible exact LeO.refl _)
   | (with_reducible exact LeO.none _)
   | (with_reducible refine LeO.ite ?_ ?_)
   | (with_reducible refine LeO.bind ?_ (fun _ => ?_))
   | exact ih0 _ _ _ _ _
   | exact ih1 _ _ _ _ _ _ _ _ _
   | exact ih2 _
   | exact ih3 _
   | exact money_Scale.mono _ _ _ _ _ _
   | exact supercargolaw01_awake.mono _
   | exact supercargoref01_May.mono _ _ _
   | exact LeO.none _
   | refine LeO.ite ?_ ?_
   | refine LeO.bind ?_ (fun _ => ?_)
set_option maxHeartbeats 8000000 in
set_option maxRecDepth 100000 in
theorem supercargolaw01_MoneyRounds.calls (k : Nat) (a0_0 : ByteArray) (a0_1 : Int) (a1_0 : Int) (a1_1 : Int) (r : Bool) (w : World) (hT : Tabs w) (h : supercargolaw01_MoneyRounds.f k a0_0 a0_1 a1_0 a1_1 = some r) :
  Calls Tryd.prog 4 #[.agg #[.string a0_0, .int .i64 a0_1], .agg #[.int .i64 a1_0, .int .i64 a1_1]] w fun e w' => e = .returned (.bool r) ∧ Below w.heap.size w w' := by
 have hu23 := Tryd.underlying23
 have hu25 := Tryd.underlying25
 have HT := Aside0.mk hT
 clear hT
 have HB := Aside0.mk (Below.refl w.heap.size w)
 have H : ((supercargoref01_May.f k a0_0 a0_1).bind fun t213 => (if t213 = true then (supercargolaw01_MoneyRounds.j0 k (decide (a0_1 < 0)) a0_0 a0_1 a1_0 a1_1) else (supercargolaw01_MoneyRounds.j0 k true a0_0 a0_1 a1_0 a1_1))) = some r := h
 clear h
 have HC3 := Aside0.mk H
 clear H
 go_enter Tryd.func4, Tryd.ntmps4
 go_upto_region 1 with (first | ((with_reducible refine gate_dst (N := 2) rfl ?_); refine box_event ?hg (N := 2) ?hd (cs := #[.string a0_0, .int .i64 a0_1]) (t := 23) ?hr ?_; (case hd => rfl); (case hg => rfl); (case hr => first | (go_simp; done) | (go_simp; rfl)); intro gb211 hg w4 hbox hb; have n0_ := Aside0.mk (below_step (by repeat (first | (with_reducible first | exact HB.out | apply below_alloc | apply pw_below_drewN | apply below_drew1) | exact HB.out)) hb); have n1_ := Aside0.mk (hbox); have n2_ := Aside0.mk ((by rw [hg]; exact (below_size (by repeat (first | (with_reducible first | exact HB.out | apply below_alloc | apply pw_below_drewN | apply below_drew1) | exact HB.out))) : w.heap.size ≤ gb211)); have n3_ := Aside0.mk ((by rw [hg]; exact (below_size (by repeat (first | (with_reducible first | exact HB.out | apply below_alloc | apply pw_below_drewN | apply below_drew1) | exact HB.out))) : w.heap.size ≤ gb211)); clear HB; have HB := n0_; have BK211 := n1_; have GW211 := n2_; have GE211 := n3_; clear n0_ n1_ n2_ n3_; clear hb hbox hg) | ((with_reducible refine gate_dst (N := 3) rfl ?_); refine box_event ?hg (N := 3) ?hd (cs := #[.int .i64 a1_0, .int .i64 a1_1]) (t := 25) ?hr ?_; (case hd => rfl); (case hg => rfl); (case hr => first | (go_simp; done) | (go_simp; rfl)); intro gb212 hg w5 hbox hb; have n0_ := Aside0.mk (blk_below (g := gb211) (o := .cells #[.string a0_0, .int .i64 a0_1] 23 (0, 0)) (by (with_reducible repeat (first | refine blk_drewN ?_ _ | refine blk_drew ?_ | refine blk_alloc ?_ _)); exact BK211.out) hb); have n1_ := Aside0.mk (below_step (by repeat (first | (with_reducible first | exact HB.out | apply below_alloc | apply pw_below_drewN | apply below_drew1 | refine below_set ?_ GE211.out) | exact HB.out)) hb); have n2_ := Aside0.mk (hbox); have n3_ := Aside0.mk ((by rw [hg]; exact (below_size (by repeat (first | (with_reducible first | exact HB.out | apply below_alloc | apply pw_below_drewN | apply below_drew1 | refine below_set ?_ GE211.out) | exact HB.out))) : w.heap.size ≤ gb212)); have n4_ := Aside0.mk ((by rw [hg]; exact (below_size (by repeat (first | (with_reducible first | exact HB.out | apply below_alloc | apply pw_below_drewN | apply below_drew1 | refine below_set ?_ GE211.out) | exact HB.out))) : w.heap.size ≤ gb212)); have n5_ := Aside0.mk ((by rw [hg]; exact Nat.ne_of_lt (blk_lt (g := gb211) (o := .cells #[.string a0_0, .int .i64 a0_1] 23 (0, 0)) (by (with_reducible repeat (first | refine blk_drewN ?_ _ | refine blk_drew ?_ | refine blk_alloc ?_ _)); exact BK211.out)) : gb211 ≠ gb212)); have n6_ := Aside0.mk ((by rw [hg]; exact Nat.ne_of_gt (blk_lt (g := gb211) (o := .cells #[.string a0_0, .int .i64 a0_1] 23 (0, 0)) (by (with_reducible repeat (first | refine blk_drewN ?_ _ | refine blk_drew ?_ | refine blk_alloc ?_ _)); exact BK211.out)) : gb212 ≠ gb211)); clear BK211; clear HB; have BK211 := n0_; have HB := n1_; have BK212 := n2_; have GW212 := n3_; have GE212 := n4_; have NB211_212 := n5_; have NB212_211 := n6_; clear n0_ n1_ n2_ n3_ n4_ n5_ n6_; clear hb hbox hg))
 (try simp only [Act.put, sA, s0, s1])
 go_cut [22] (fun v22 wc => ∃ (kq : Nat) (x22_2 : Bool), v22 = .bool x22_2 ∧ Aside0 (supercargolaw01_MoneyRounds.j0 kq x22_2 a0_0 a0_1 a1_0 a1_1 = some r) ∧ Aside0 (kq ≤ k) ∧ Aside0 (wc.heap[gb211]? = some (.cells #[.string a0_0, .int .i64 a0_1] 23 (0, 0))) ∧ Aside0 (wc.heap[gb212]? = some (.cells #[.int .i64 a1_0, .int .i64 a1_1] 25 (0, 0))) ∧ Aside0 (Below w.heap.size w wc))
 case first =>
  have H := HC3.out
  clear HC3
  replace H := Option.bind_eq_some_iff.mp H
  obtain ⟨t213, A60, H⟩ := H
  replace H : (if t213 = true then (supercargolaw01_MoneyRounds.j0 k (decide (a0_1 < 0)) a0_0 a0_1 a1_0 a1_1) else (supercargolaw01_MoneyRounds.j0 k true a0_0 a0_1 a1_0 a1_1)) = some r := H
  have A6 := Aside0.mk A60
  clear A60
  by_cases c7 : t213 = true
  ·subst c7
   have H1 : (supercargolaw01_MoneyRounds.j0 k (decide (a0_1 < 0)) a0_0 a0_1 a1_0 a1_1) = some r := by rw [if_pos rfl] at H; exact H
   clear H
   have H := H1
   clear H1
   have H' := Aside0.mk H
   clear H
   have hnb8 := NB211_212.out
   have hnc8 := NB212_211.out
   have hcz9_0 : w5.cell? ⟨gb211, 0, none⟩ = some (.string a0_0) := (blk_cell BK211.out 0).trans rfl
   have hcz9_1 : w5.cell? ⟨gb211, 1, none⟩ = some (.int .i64 a0_1) := (blk_cell BK211.out 1).trans rfl
   have hfz9_0 := blk_frozen BK211.out 0
   have hfz9_1 := blk_frozen BK211.out 1
   go_wp2_with (first | ((with_reducible refine gate_callee (f := 14) rfl ?_); refine goesL_ (some 16) rfl rfl Tryd.func14 (by kernel_rfl) rfl #[.agg #[.string a0_0, .int .i64 a0_1]] rfl (by (try simp only [List.map_toArray, List.map_cons, List.map_nil]); first | done | rfl | (simp only [List.length_drop, List.length_take]; rfl)) ?_; (with_reducible refine (supercargoref01_May.calls k a0_0 a0_1 true _ A6.out).mono ?_); rintro e w10 ⟨rfl, hb⟩; refine ⟨_, rfl, ?_⟩; have n0_ := Aside0.mk (blk_below (g := gb211) (o := .cells #[.string a0_0, .int .i64 a0_1] 23 (0, 0)) (by (with_reducible repeat (first | refine blk_drewN ?_ _ | refine blk_drew ?_ | refine blk_alloc ?_ _)); exact BK211.out) hb); have n1_ := Aside0.mk (blk_below (g := gb212) (o := .cells #[.int .i64 a1_0, .int .i64 a1_1] 25 (0, 0)) (by (with_reducible repeat (first | refine blk_drewN ?_ _ | refine blk_drew ?_ | refine blk_alloc ?_ _)); exact BK212.out) hb); have n2_ := Aside0.mk (below_step (by repeat (first | (with_reducible first | exact HB.out | apply below_alloc | apply pw_below_drewN | apply below_drew1 | refine below_set ?_ GE211.out | refine below_set ?_ GE212.out) | exact HB.out)) hb); clear BK211; clear BK212; clear HB; have BK211 := n0_; have BK212 := n1_; have HB := n2_; clear n0_ n1_ n2_; (try clear hb); (try clear hb2); (try clear hk); (try clear hi); have hcz11_0 : w10.cell? ⟨gb211, 0, none⟩ = some (.string a0_0) := (blk_cell BK211.out 0).trans rfl; have hcz11_1 : w10.cell? ⟨gb211, 1, none⟩ = some (.int .i64 a0_1) := (blk_cell BK211.out 1).trans rfl; have hfz11_0 := blk_frozen BK211.out 0; have hfz11_1 := blk_frozen BK211.out 1))
   go_meet
   case rel => exact ⟨_, (decide (a0_1 < 0)), (by first | rfl | (simp; done) | (simp [*]; done)), H', ⟨by first | omega | exact Nat.le_refl _⟩, ⟨by (with_reducible repeat (first | refine blk_drewN ?_ _ | refine blk_drew ?_ | refine blk_alloc ?_ _)); exact BK211.out⟩, ⟨by (with_reducible repeat (first | refine blk_drewN ?_ _ | refine blk_drew ?_ | refine blk_alloc ?_ _)); exact BK212.out⟩, ⟨by repeat (first | (with_reducible first | exact HB.out | apply below_alloc | apply pw_below_drewN | apply below_drew1 | refine below_set ?_ GE211.out | refine below_set ?_ GE212.out) | exact HB.out)⟩⟩
  ·replace c7 := Bool.eq_false_iff.mpr c7
   subst c7
   have H1 : (supercargolaw01_MoneyRounds.j0 k true a0_0 a0_1 a1_0 a1_1) = some r := by rw [if_neg (show ¬ (false = true) by decide)] at H; exact H
   clear H
   have H := H1
   clear H1
   have H' := Aside0.mk H
   clear H
   have hnb12 := NB211_212.out
   have hnc12 := NB212_211.out
   have hcz13_0 : w5.cell? ⟨gb211, 0, none⟩ = some (.string a0_0) := (blk_cell BK211.out 0).trans rfl
   have hcz13_1 : w5.cell? ⟨gb211, 1, none⟩ = some (.int .i64 a0_1) := (blk_cell BK211.out 1).trans rfl
   have hfz13_0 := blk_frozen BK211.out 0
   have hfz13_1 := blk_frozen BK211.out 1
   go_wp2_with (first | ((with_reducible refine gate_callee (f := 14) rfl ?_); refine goesL_ (some 16) rfl rfl Tryd.func14 (by kernel_rfl) rfl #[.agg #[.string a0_0, .int .i64 a0_1]] rfl (by (try simp only [List.map_toArray, List.map_cons, List.map_nil]); first | done | rfl | (simp only [List.length_drop, List.length_take]; rfl)) ?_; (with_reducible refine (supercargoref01_May.calls k a0_0 a0_1 false _ A6.out).mono ?_); rintro e w14 ⟨rfl, hb⟩; refine ⟨_, rfl, ?_⟩; have n0_ := Aside0.mk (blk_below (g := gb211) (o := .cells #[.string a0_0, .int .i64 a0_1] 23 (0, 0)) (by (with_reducible repeat (first | refine blk_drewN ?_ _ | refine blk_drew ?_ | refine blk_alloc ?_ _)); exact BK211.out) hb); have n1_ := Aside0.mk (blk_below (g := gb212) (o := .cells #[.int .i64 a1_0, .int .i64 a1_1] 25 (0, 0)) (by (with_reducible repeat (first | refine blk_drewN ?_ _ | refine blk_drew ?_ | refine blk_alloc ?_ _)); exact BK212.out) hb); have n2_ := Aside0.mk (below_step (by repeat (first | (with_reducible first | exact HB.out | apply below_alloc | apply pw_below_drewN | apply below_drew1 | refine below_set ?_ GE211.out | refine below_set ?_ GE212.out) | exact HB.out)) hb); clear BK211; clear BK212; clear HB; have BK211 := n0_; have BK212 := n1_; have HB := n2_; clear n0_ n1_ n2_; (try clear hb); (try clear hb2); (try clear hk); (try clear hi)))
   go_meet
   case rel => exact ⟨_, (true), (by first | rfl | (simp; done) | (simp [*]; done)), H', ⟨by first | omega | exact Nat.le_refl _⟩, ⟨by (with_reducible repeat (first | refine blk_drewN ?_ _ | refine blk_drew ?_ | refine blk_alloc ?_ _)); exact BK211.out⟩, ⟨by (with_reducible repeat (first | refine blk_drewN ?_ _ | refine blk_drew ?_ | refine blk_alloc ?_ _)); exact BK212.out⟩, ⟨by repeat (first | (with_reducible first | exact HB.out | apply below_alloc | apply pw_below_drewN | apply below_drew1 | refine below_set ?_ GE211.out | refine below_set ?_ GE212.out) | exact HB.out)⟩⟩
 case rest =>
  clear HC3
  try clear c1
  try clear p2
  try clear c4
  try clear c7
  try clear c8
  try clear c12
  try clear c14
  try clear hcz11_0
  try clear hcz11_1
  try clear hcz13_0
  try clear hcz13_1
  try clear hcz9_0
  try clear hcz9_1
  try clear hfz11_0
  try clear hfz11_1
  try clear hfz13_0
  try clear hfz13_1
  try clear hfz9_0
  try clear hfz9_1
  obtain ⟨kq, x22_2, rfl, HA, HJ2, BK211, BK212, HB⟩ := hcut
  cases kq with
  | zero => exact absurd HA.out (by simp [supercargolaw01_MoneyRounds.j0])
  | succ kj2 =>
   have H := HA.out
   clear HA
   simp only [supercargolaw01_MoneyRounds.j0] at H
   by_cases c15 : x22_2 = true
   ·subst c15
    have H1 : ((supercargolaw01_awake.f kj2).bind fun t214 => (some t214)) = some r := by rw [if_pos rfl] at H; exact H
    clear H
    have H := H1
    clear H1
    replace H := Option.bind_eq_some_iff.mp H
    obtain ⟨t214, A160, H⟩ := H
    replace H : (some t214) = some r := H
    have A16 := Aside0.mk A160
    clear A160
    obtain rfl := Option.some.inj H
    go_wp2_with (first | ((with_reducible refine gate_callee (f := 13) rfl ?_); refine goesL_ (some 23) rfl rfl Tryd.func13 (by kernel_rfl) rfl #[] rfl (by (try simp only [List.map_toArray, List.map_cons, List.map_nil]); first | done | rfl | (simp only [List.length_drop, List.length_take]; rfl)) ?_; (with_reducible refine (supercargolaw01_awake.calls kj2  t214 _ ?side1 A16.out).mono ?_); (case side1 => repeat (first | exact HT.out | exact Tabs_below HT.out (by repeat (first | (with_reducible first | exact HB.out | apply below_alloc | apply pw_below_drewN | apply below_drew1 | refine below_set ?_ GE211.out | refine below_set ?_ GE212.out) | exact HB.out)) | (with_reducible refine Tabs_drewN ?_ _) | (with_reducible refine Tabs_drew ?_))); rintro e w17 ⟨rfl, hb⟩; refine ⟨_, rfl, ?_⟩; have n0_ := Aside0.mk (blk_below (g := gb211) (o := .cells #[.string a0_0, .int .i64 a0_1] 23 (0, 0)) (by (with_reducible repeat (first | refine blk_drewN ?_ _ | refine blk_drew ?_ | refine blk_alloc ?_ _)); exact BK211.out) hb); have n1_ := Aside0.mk (blk_below (g := gb212) (o := .cells #[.int .i64 a1_0, .int .i64 a1_1] 25 (0, 0)) (by (with_reducible repeat (first | refine blk_drewN ?_ _ | refine blk_drew ?_ | refine blk_alloc ?_ _)); exact BK212.out) hb); have n2_ := Aside0.mk (below_step (by repeat (first | (with_reducible first | exact HB.out | apply below_alloc | apply pw_below_drewN | apply below_drew1 | refine below_set ?_ GE211.out | refine below_set ?_ GE212.out) | exact HB.out)) hb); clear BK211; clear BK212; clear HB; have BK211 := n0_; have BK212 := n1_; have HB := n2_; clear n0_ n1_ n2_; (try clear hb); (try clear hb2); (try clear hk); (try clear hi)))
    go_ret
    exact ⟨by first | rfl | (simp [errW_none, errW_some] <;> rfl) | (simp [*, errW_none, errW_some] <;> rfl), by repeat (first | (with_reducible first | exact HB.out | apply below_alloc | apply pw_below_drewN | apply below_drew1 | refine below_set ?_ GE211.out | refine below_set ?_ GE212.out) | exact HB.out)⟩
   ·replace c15 := Bool.eq_false_iff.mpr c15
    subst c15
    have H1 : ((money_Scale.f kj2 a0_0 a0_1 a1_0 a1_1 0).bind fun bt215 => ((money_Scale.f kj2 a0_0 a0_1 a1_0 a1_1 1).bind fun bt219 => ((money_Scale.f kj2 a0_0 a0_1 a1_0 a1_1 2).bind fun bt223 => (if bt219.2.2 = true then (if bt215.2.2 = true then (if bt223.2.2 = true then (if bt215.2.1 > bt219.2.1 then (supercargolaw01_MoneyRounds.j2 kj2 true a0_0 a0_1 a1_0 a1_1 bt215.1 bt215.2.1 bt223.1 bt223.2.1) else (if bt215.2.1 < (wrap64 (bt219.2.1 - 1)) then (supercargolaw01_MoneyRounds.j2 kj2 true a0_0 a0_1 a1_0 a1_1 bt215.1 bt215.2.1 bt223.1 bt223.2.1) else (if (!(bt223.1.toList == bt215.1.toList) || (!(bt223.2.1 == bt215.2.1))) = true then (supercargolaw01_MoneyRounds.j2 kj2 (!(bt223.1.toList == bt219.1.toList) || (!(bt223.2.1 == bt219.2.1))) a0_0 a0_1 a1_0 a1_1 bt215.1 bt215.2.1 bt223.1 bt223.2.1) else (supercargolaw01_MoneyRounds.j2 kj2 false a0_0 a0_1 a1_0 a1_1 bt215.1 bt215.2.1 bt223.1 bt223.2.1)))) else (supercargolaw01_MoneyRounds.j2 kj2 true a0_0 a0_1 a1_0 a1_1 bt215.1 bt215.2.1 bt223.1 bt223.2.1)) else (supercargolaw01_MoneyRounds.j2 kj2 true a0_0 a0_1 a1_0 a1_1 bt215.1 bt215.2.1 bt223.1 bt223.2.1)) else (if bt215.2.2 = true then (if bt215.2.1 = 1099511627776 then (if bt223.2.2 = true then (if (bt223.1.toList == bt215.1.toList && (bt223.2.1 == bt215.2.1)) = true then ((supercargolaw01_awake.f kj2).bind fun t227 => (supercargolaw01_MoneyRounds.j1 kj2 t227)) else (supercargolaw01_MoneyRounds.j1 kj2 false)) else ((supercargolaw01_awake.f kj2).bind fun t228 => (supercargolaw01_MoneyRounds.j1 kj2 t228))) else (supercargolaw01_MoneyRounds.j1 kj2 false)) else (if bt223.2.2 = true then (if (bt223.1.toList == bt215.1.toList && (bt223.2.1 == bt215.2.1)) = true then ((supercargolaw01_awake.f kj2).bind fun t229 => (supercargolaw01_MoneyRounds.j1 kj2 t229)) else (supercargolaw01_MoneyRounds.j1 kj2 false)) else ((supercargolaw01_awake.f kj2).bind fun t230 => (supercargolaw01_MoneyRounds.j1 kj2 t230)))))))) = some r := by rw [if_neg (show ¬ (false = true) by decide)] at H; exact H
    clear H
    have H := H1
    clear H1
    replace H := Option.bind_eq_some_iff.mp H
    obtain ⟨⟨t215, t216, t217⟩, A180, H⟩ := H
    replace H : ((money_Scale.f kj2 a0_0 a0_1 a1_0 a1_1 1).bind fun bt219 => ((money_Scale.f kj2 a0_0 a0_1 a1_0 a1_1 2).bind fun bt223 => (if bt219.2.2 = true then (if t217 = true then (if bt223.2.2 = true then (if t216 > bt219.2.1 then (supercargolaw01_MoneyRounds.j2 kj2 true a0_0 a0_1 a1_0 a1_1 t215 t216 bt223.1 bt223.2.1) else (if t216 < (wrap64 (bt219.2.1 - 1)) then (supercargolaw01_MoneyRounds.j2 kj2 true a0_0 a0_1 a1_0 a1_1 t215 t216 bt223.1 bt223.2.1) else (if (!(bt223.1.toList == t215.toList) || (!(bt223.2.1 == t216))) = true then (supercargolaw01_MoneyRounds.j2 kj2 (!(bt223.1.toList == bt219.1.toList) || (!(bt223.2.1 == bt219.2.1))) a0_0 a0_1 a1_0 a1_1 t215 t216 bt223.1 bt223.2.1) else (supercargolaw01_MoneyRounds.j2 kj2 false a0_0 a0_1 a1_0 a1_1 t215 t216 bt223.1 bt223.2.1)))) else (supercargolaw01_MoneyRounds.j2 kj2 true a0_0 a0_1 a1_0 a1_1 t215 t216 bt223.1 bt223.2.1)) else (supercargolaw01_MoneyRounds.j2 kj2 true a0_0 a0_1 a1_0 a1_1 t215 t216 bt223.1 bt223.2.1)) else (if t217 = true then (if t216 = 1099511627776 then (if bt223.2.2 = true then (if (bt223.1.toList == t215.toList && (bt223.2.1 == t216)) = true then ((supercargolaw01_awake.f kj2).bind fun t227 => (supercargolaw01_MoneyRounds.j1 kj2 t227)) else (supercargolaw01_MoneyRounds.j1 kj2 false)) else ((supercargolaw01_awake.f kj2).bind fun t228 => (supercargolaw01_MoneyRounds.j1 kj2 t228))) else (supercargolaw01_MoneyRounds.j1 kj2 false)) else (if bt223.2.2 = true then (if (bt223.1.toList == t215.toList && (bt223.2.1 == t216)) = true then ((supercargolaw01_awake.f kj2).bind fun t229 => (supercargolaw01_MoneyRounds.j1 kj2 t229)) else (supercargolaw01_MoneyRounds.j1 kj2 false)) else ((supercargolaw01_awake.f kj2).bind fun t230 => (supercargolaw01_MoneyRounds.j1 kj2 t230))))))) = some r := H
    have A18 := Aside0.mk A180
    clear A180
    replace H := Option.bind_eq_some_iff.mp H
    obtain ⟨⟨t219, t220, t221⟩, A190, H⟩ := H
    replace H : ((money_Scale.f kj2 a0_0 a0_1 a1_0 a1_1 2).bind fun bt223 => (if t221 = true then (if t217 = true then (if bt223.2.2 = true then (if t216 > t220 then (supercargolaw01_MoneyRounds.j2 kj2 true a0_0 a0_1 a1_0 a1_1 t215 t216 bt223.1 bt223.2.1) else (if t216 < (wrap64 (t220 - 1)) then (supercargolaw01_MoneyRounds.j2 kj2 true a0_0 a0_1 a1_0 a1_1 t215 t216 bt223.1 bt223.2.1) else (if (!(bt223.1.toList == t215.toList) || (!(bt223.2.1 == t216))) = true then (supercargolaw01_MoneyRounds.j2 kj2 (!(bt223.1.toList == t219.toList) || (!(bt223.2.1 == t220))) a0_0 a0_1 a1_0 a1_1 t215 t216 bt223.1 bt223.2.1) else (supercargolaw01_MoneyRounds.j2 kj2 false a0_0 a0_1 a1_0 a1_1 t215 t216 bt223.1 bt223.2.1)))) else (supercargolaw01_MoneyRounds.j2 kj2 true a0_0 a0_1 a1_0 a1_1 t215 t216 bt223.1 bt223.2.1)) else (supercargolaw01_MoneyRounds.j2 kj2 true a0_0 a0_1 a1_0 a1_1 t215 t216 bt223.1 bt223.2.1)) else (if t217 = true then (if t216 = 1099511627776 then (if bt223.2.2 = true then (if (bt223.1.toList == t215.toList && (bt223.2.1 == t216)) = true then ((supercargolaw01_awake.f kj2).bind fun t227 => (supercargolaw01_MoneyRounds.j1 kj2 t227)) else (supercargolaw01_MoneyRounds.j1 kj2 false)) else ((supercargolaw01_awake.f kj2).bind fun t228 => (supercargolaw01_MoneyRounds.j1 kj2 t228))) else (supercargolaw01_MoneyRounds.j1 kj2 false)) else (if bt223.2.2 = true then (if (bt223.1.toList == t215.toList && (bt223.2.1 == t216)) = true then ((supercargolaw01_awake.f kj2).bind fun t229 => (supercargolaw01_MoneyRounds.j1 kj2 t229)) else (supercargolaw01_MoneyRounds.j1 kj2 false)) else ((supercargolaw01_awake.f kj2).bind fun t230 => (supercargolaw01_MoneyRounds.j1 kj2 t230)))))) = some r := H
    have A19 := Aside0.mk A190
    clear A190
    replace H := Option.bind_eq_some_iff.mp H
    obtain ⟨⟨t223, t224, t225⟩, A200, H⟩ := H
    replace H : (if t221 = true then (if t217 = true then (if t225 = true then (if t216 > t220 then (supercargolaw01_MoneyRounds.j2 kj2 true a0_0 a0_1 a1_0 a1_1 t215 t216 t223 t224) else (if t216 < (wrap64 (t220 - 1)) then (supercargolaw01_MoneyRounds.j2 kj2 true a0_0 a0_1 a1_0 a1_1 t215 t216 t223 t224) else (if (!(t223.toList == t215.toList) || (!(t224 == t216))) = true then (supercargolaw01_MoneyRounds.j2 kj2 (!(t223.toList == t219.toList) || (!(t224 == t220))) a0_0 a0_1 a1_0 a1_1 t215 t216 t223 t224) else (supercargolaw01_MoneyRounds.j2 kj2 false a0_0 a0_1 a1_0 a1_1 t215 t216 t223 t224)))) else (supercargolaw01_MoneyRounds.j2 kj2 true a0_0 a0_1 a1_0 a1_1 t215 t216 t223 t224)) else (supercargolaw01_MoneyRounds.j2 kj2 true a0_0 a0_1 a1_0 a1_1 t215 t216 t223 t224)) else (if t217 = true then (if t216 = 1099511627776 then (if t225 = true then (if (t223.toList == t215.toList && (t224 == t216)) = true then ((supercargolaw01_awake.f kj2).bind fun t227 => (supercargolaw01_MoneyRounds.j1 kj2 t227)) else (supercargolaw01_MoneyRounds.j1 kj2 false)) else ((supercargolaw01_awake.f kj2).bind fun t228 => (supercargolaw01_MoneyRounds.j1 kj2 t228))) else (supercargolaw01_MoneyRounds.j1 kj2 false)) else (if t225 = true then (if (t223.toList == t215.toList && (t224 == t216)) = true then ((supercargolaw01_awake.f kj2).bind fun t229 => (supercargolaw01_MoneyRounds.j1 kj2 t229)) else (supercargolaw01_MoneyRounds.j1 kj2 false)) else ((supercargolaw01_awake.f kj2).bind fun t230 => (supercargolaw01_MoneyRounds.j1 kj2 t230))))) = some r := H
    have A20 := Aside0.mk A200
    clear A200
    by_cases c21 : t221 = true
    ·subst c21
     have H1 : (if t217 = true then (if t225 = true then (if t216 > t220 then (supercargolaw01_MoneyRounds.j2 kj2 true a0_0 a0_1 a1_0 a1_1 t215 t216 t223 t224) else (if t216 < (wrap64 (t220 - 1)) then (supercargolaw01_MoneyRounds.j2 kj2 true a0_0 a0_1 a1_0 a1_1 t215 t216 t223 t224) else (if (!(t223.toList == t215.toList) || (!(t224 == t216))) = true then (supercargolaw01_MoneyRounds.j2 kj2 (!(t223.toList == t219.toList) || (!(t224 == t220))) a0_0 a0_1 a1_0 a1_1 t215 t216 t223 t224) else (supercargolaw01_MoneyRounds.j2 kj2 false a0_0 a0_1 a1_0 a1_1 t215 t216 t223 t224)))) else (supercargolaw01_MoneyRounds.j2 kj2 true a0_0 a0_1 a1_0 a1_1 t215 t216 t223 t224)) else (supercargolaw01_MoneyRounds.j2 kj2 true a0_0 a0_1 a1_0 a1_1 t215 t216 t223 t224)) = some r := by rw [if_pos rfl] at H; exact H
     clear H
     have H := H1
     clear H1
     have HC22 := Aside0.mk H
     clear H
     have hnb23 := NB211_212.out
     have hnc23 := NB212_211.out
     have hcz24_0 : wc.cell? ⟨gb211, 0, none⟩ = some (.string a0_0) := (blk_cell BK211.out 0).trans rfl
     have hcz24_1 : wc.cell? ⟨gb211, 1, none⟩ = some (.int .i64 a0_1) := (blk_cell BK211.out 1).trans rfl
     have hfz24_0 := blk_frozen BK211.out 0
     have hfz24_1 := blk_frozen BK211.out 1
     have hcz25_0 : wc.cell? ⟨gb212, 0, none⟩ = some (.int .i64 a1_0) := (blk_cell BK212.out 0).trans rfl
     have hcz25_1 : wc.cell? ⟨gb212, 1, none⟩ = some (.int .i64 a1_1) := (blk_cell BK212.out 1).trans rfl
     have hfz25_0 := blk_frozen BK212.out 0
     have hfz25_1 := blk_frozen BK212.out 1
     go_upto_region 8 with (first | ((with_reducible refine gate_callee (f := 11) rfl ?_); refine goesL_ (some 27) rfl rfl Tryd.func11 (by kernel_rfl) rfl #[.agg #[.string a0_0, .int .i64 a0_1], .agg #[.int .i64 a1_0, .int .i64 a1_1], .int .i64 0] rfl (by (try simp only [List.map_toArray, List.map_cons, List.map_nil]); first | done | rfl | (simp only [List.length_drop, List.length_take]; rfl)) ?_; (with_reducible refine (money_Scale.calls kj2 a0_0 a0_1 a1_0 a1_1 0 t215 t216 t217 _ A18.out).mono ?_); rintro e w26 ⟨rfl, hb⟩; refine ⟨_, rfl, ?_⟩; have n0_ := Aside0.mk (blk_below (g := gb211) (o := .cells #[.string a0_0, .int .i64 a0_1] 23 (0, 0)) (by (with_reducible repeat (first | refine blk_drewN ?_ _ | refine blk_drew ?_ | refine blk_alloc ?_ _)); exact BK211.out) hb); have n1_ := Aside0.mk (blk_below (g := gb212) (o := .cells #[.int .i64 a1_0, .int .i64 a1_1] 25 (0, 0)) (by (with_reducible repeat (first | refine blk_drewN ?_ _ | refine blk_drew ?_ | refine blk_alloc ?_ _)); exact BK212.out) hb); have n2_ := Aside0.mk (below_step (by repeat (first | (with_reducible first | exact HB.out | apply below_alloc | apply pw_below_drewN | apply below_drew1 | refine below_set ?_ GE211.out | refine below_set ?_ GE212.out) | exact HB.out)) hb); clear BK211; clear BK212; clear HB; have BK211 := n0_; have BK212 := n1_; have HB := n2_; clear n0_ n1_ n2_; (try clear hb); (try clear hb2); (try clear hk); (try clear hi)) | ((with_reducible refine gate_dst (N := 5) rfl ?_); refine box_event ?hg (N := 5) ?hd (cs := #[.string (⟨#[]⟩ : ByteArray), .int .i64 0]) (t := 23) ?hr ?_; (case hd => rfl); (case hg => rfl); (case hr => first | (go_simp; done) | (go_simp; rfl)); intro gb218 hg w27 hbox hb; have n0_ := Aside0.mk (blk_below (g := gb211) (o := .cells #[.string a0_0, .int .i64 a0_1] 23 (0, 0)) (by (with_reducible repeat (first | refine blk_drewN ?_ _ | refine blk_drew ?_ | refine blk_alloc ?_ _)); exact BK211.out) hb); have n1_ := Aside0.mk (blk_below (g := gb212) (o := .cells #[.int .i64 a1_0, .int .i64 a1_1] 25 (0, 0)) (by (with_reducible repeat (first | refine blk_drewN ?_ _ | refine blk_drew ?_ | refine blk_alloc ?_ _)); exact BK212.out) hb); have n2_ := Aside0.mk (below_step (by repeat (first | (with_reducible first | exact HB.out | apply below_alloc | apply pw_below_drewN | apply below_drew1 | refine below_set ?_ GE211.out | refine below_set ?_ GE212.out) | exact HB.out)) hb); have n3_ := Aside0.mk (hbox); have n4_ := Aside0.mk ((by rw [hg]; exact (below_size (by repeat (first | (with_reducible first | exact HB.out | apply below_alloc | apply pw_below_drewN | apply below_drew1 | refine below_set ?_ GE211.out | refine below_set ?_ GE212.out) | exact HB.out))) : w.heap.size ≤ gb218)); have n5_ := Aside0.mk ((by rw [hg]; exact (below_size (by repeat (first | (with_reducible first | exact HB.out | apply below_alloc | apply pw_below_drewN | apply below_drew1 | refine below_set ?_ GE211.out | refine below_set ?_ GE212.out) | exact HB.out))) : w.heap.size ≤ gb218)); have n6_ := Aside0.mk ((by rw [hg]; exact Nat.ne_of_lt (blk_lt (g := gb211) (o := .cells #[.string a0_0, .int .i64 a0_1] 23 (0, 0)) (by (with_reducible repeat (first | refine blk_drewN ?_ _ | refine blk_drew ?_ | refine blk_alloc ?_ _)); exact BK211.out)) : gb211 ≠ gb218)); have n7_ := Aside0.mk ((by rw [hg]; exact Nat.ne_of_gt (blk_lt (g := gb211) (o := .cells #[.string a0_0, .int .i64 a0_1] 23 (0, 0)) (by (with_reducible repeat (first | refine blk_drewN ?_ _ | refine blk_drew ?_ | refine blk_alloc ?_ _)); exact BK211.out)) : gb218 ≠ gb211)); have n8_ := Aside0.mk ((by rw [hg]; exact Nat.ne_of_lt (blk_lt (g := gb212) (o := .cells #[.int .i64 a1_0, .int .i64 a1_1] 25 (0, 0)) (by (with_reducible repeat (first | refine blk_drewN ?_ _ | refine blk_drew ?_ | refine blk_alloc ?_ _)); exact BK212.out)) : gb212 ≠ gb218)); have n9_ := Aside0.mk ((by rw [hg]; exact Nat.ne_of_gt (blk_lt (g := gb212) (o := .cells #[.int .i64 a1_0, .int .i64 a1_1] 25 (0, 0)) (by (with_reducible repeat (first | refine blk_drewN ?_ _ | refine blk_drew ?_ | refine blk_alloc ?_ _)); exact BK212.out)) : gb218 ≠ gb212)); clear BK211; clear BK212; clear HB; have BK211 := n0_; have BK212 := n1_; have HB := n2_; have BK218 := n3_; have GW218 := n4_; have GE218 := n5_; have NB211_218 := n6_; have NB218_211 := n7_; have NB212_218 := n8_; have NB218_212 := n9_; clear n0_ n1_ n2_ n3_ n4_ n5_ n6_ n7_ n8_ n9_; clear hb hbox hg; have hnb28 := NB218_211.out; have hnc28 := NB211_218.out; have hnb29 := NB218_212.out; have hnc29 := NB212_218.out; have hcz30_0 : w27.cell? ⟨gb218, 0, none⟩ = some (.string (⟨#[]⟩ : ByteArray)) := (blk_cell BK218.out 0).trans rfl; have hcz30_1 : w27.cell? ⟨gb218, 1, none⟩ = some (.int .i64 0) := (blk_cell BK218.out 1).trans rfl; have hfz30_0 := blk_frozen BK218.out 0; have hfz30_1 := blk_frozen BK218.out 1; have hcz31_0 : w27.cell? ⟨gb211, 0, none⟩ = some (.string a0_0) := (blk_cell BK211.out 0).trans rfl; have hcz31_1 : w27.cell? ⟨gb211, 1, none⟩ = some (.int .i64 a0_1) := (blk_cell BK211.out 1).trans rfl; have hfz31_0 := blk_frozen BK211.out 0; have hfz31_1 := blk_frozen BK211.out 1; have hcz32_0 : w27.cell? ⟨gb212, 0, none⟩ = some (.int .i64 a1_0) := (blk_cell BK212.out 0).trans rfl; have hcz32_1 : w27.cell? ⟨gb212, 1, none⟩ = some (.int .i64 a1_1) := (blk_cell BK212.out 1).trans rfl; have hfz32_0 := blk_frozen BK212.out 0; have hfz32_1 := blk_frozen BK212.out 1) | ((with_reducible refine gate_callee (f := 11) rfl ?_); refine goesL_ (some 33) rfl rfl Tryd.func11 (by kernel_rfl) rfl #[.agg #[.string a0_0, .int .i64 a0_1], .agg #[.int .i64 a1_0, .int .i64 a1_1], .int .i64 1] rfl (by (try simp only [List.map_toArray, List.map_cons, List.map_nil]); first | done | rfl | (simp only [List.length_drop, List.length_take]; rfl)) ?_; (with_reducible refine (money_Scale.calls kj2 a0_0 a0_1 a1_0 a1_1 1 t219 t220 true _ A19.out).mono ?_); rintro e w33 ⟨rfl, hb⟩; refine ⟨_, rfl, ?_⟩; have n0_ := Aside0.mk (blk_below (g := gb211) (o := .cells #[.string a0_0, .int .i64 a0_1] 23 (0, 0)) (by (with_reducible repeat (first | refine blk_drewN ?_ _ | refine blk_drew ?_ | refine blk_alloc ?_ _)); refine blk_far ?_ NB211_218.out _; (with_reducible repeat (first | refine blk_drewN ?_ _ | refine blk_drew ?_ | refine blk_alloc ?_ _)); refine blk_far ?_ NB211_218.out _; (with_reducible repeat (first | refine blk_drewN ?_ _ | refine blk_drew ?_ | refine blk_alloc ?_ _)); exact BK211.out) hb); have n1_ := Aside0.mk (blk_below (g := gb212) (o := .cells #[.int .i64 a1_0, .int .i64 a1_1] 25 (0, 0)) (by (with_reducible repeat (first | refine blk_drewN ?_ _ | refine blk_drew ?_ | refine blk_alloc ?_ _)); refine blk_far ?_ NB212_218.out _; (with_reducible repeat (first | refine blk_drewN ?_ _ | refine blk_drew ?_ | refine blk_alloc ?_ _)); refine blk_far ?_ NB212_218.out _; (with_reducible repeat (first | refine blk_drewN ?_ _ | refine blk_drew ?_ | refine blk_alloc ?_ _)); exact BK212.out) hb); have n2_ := Aside0.mk (blk_below (g := gb218) (o := .cells #[.string t215, .int .i64 t216] 23 (0, 0)) (by (with_reducible repeat (first | refine blk_drewN ?_ _ | refine blk_drew ?_ | refine blk_alloc ?_ _)); refine blk_put (cs := #[.string t215, .int .i64 0]) ?_ 1 _ rfl; (with_reducible repeat (first | refine blk_drewN ?_ _ | refine blk_drew ?_ | refine blk_alloc ?_ _)); refine blk_put (cs := #[.string (⟨#[]⟩ : ByteArray), .int .i64 0]) ?_ 0 _ rfl; (with_reducible repeat (first | refine blk_drewN ?_ _ | refine blk_drew ?_ | refine blk_alloc ?_ _)); exact BK218.out) hb); have n3_ := Aside0.mk (below_step (by repeat (first | (with_reducible first | exact HB.out | apply below_alloc | apply pw_below_drewN | apply below_drew1 | refine below_set ?_ GE211.out | refine below_set ?_ GE212.out | refine below_set ?_ GE218.out) | exact HB.out)) hb); clear BK211; clear BK212; clear BK218; clear HB; have BK211 := n0_; have BK212 := n1_; have BK218 := n2_; have HB := n3_; clear n0_ n1_ n2_ n3_; (try clear hb); (try clear hb2); (try clear hk); (try clear hi)) | ((with_reducible refine gate_dst (N := 7) rfl ?_); refine box_event ?hg (N := 7) ?hd (cs := #[.string (⟨#[]⟩ : ByteArray), .int .i64 0]) (t := 23) ?hr ?_; (case hd => rfl); (case hg => rfl); (case hr => first | (go_simp; done) | (go_simp; rfl)); intro gb222 hg w34 hbox hb; have n0_ := Aside0.mk (blk_below (g := gb211) (o := .cells #[.string a0_0, .int .i64 a0_1] 23 (0, 0)) (by (with_reducible repeat (first | refine blk_drewN ?_ _ | refine blk_drew ?_ | refine blk_alloc ?_ _)); exact BK211.out) hb); have n1_ := Aside0.mk (blk_below (g := gb212) (o := .cells #[.int .i64 a1_0, .int .i64 a1_1] 25 (0, 0)) (by (with_reducible repeat (first | refine blk_drewN ?_ _ | refine blk_drew ?_ | refine blk_alloc ?_ _)); exact BK212.out) hb); have n2_ := Aside0.mk (blk_below (g := gb218) (o := .cells #[.string t215, .int .i64 t216] 23 (0, 0)) (by (with_reducible repeat (first | refine blk_drewN ?_ _ | refine blk_drew ?_ | refine blk_alloc ?_ _)); exact BK218.out) hb); have n3_ := Aside0.mk (below_step (by repeat (first | (with_reducible first | exact HB.out | apply below_alloc | apply pw_below_drewN | apply below_drew1 | refine below_set ?_ GE211.out | refine below_set ?_ GE212.out | refine below_set ?_ GE218.out) | exact HB.out)) hb); have n4_ := Aside0.mk (hbox); have n5_ := Aside0.mk ((by rw [hg]; exact (below_size (by repeat (first | (with_reducible first | exact HB.out | apply below_alloc | apply pw_below_drewN | apply below_drew1 | refine below_set ?_ GE211.out | refine below_set ?_ GE212.out | refine below_set ?_ GE218.out) | exact HB.out))) : w.heap.size ≤ gb222)); have n6_ := Aside0.mk ((by rw [hg]; exact (below_size (by repeat (first | (with_reducible first | exact HB.out | apply below_alloc | apply pw_below_drewN | apply below_drew1 | refine below_set ?_ GE211.out | refine below_set ?_ GE212.out | refine below_set ?_ GE218.out) | exact HB.out))) : w.heap.size ≤ gb222)); have n7_ := Aside0.mk ((by rw [hg]; exact Nat.ne_of_lt (blk_lt (g := gb211) (o := .cells #[.string a0_0, .int .i64 a0_1] 23 (0, 0)) (by (with_reducible repeat (first | refine blk_drewN ?_ _ | refine blk_drew ?_ | refine blk_alloc ?_ _)); exact BK211.out)) : gb211 ≠ gb222)); have n8_ := Aside0.mk ((by rw [hg]; exact Nat.ne_of_gt (blk_lt (g := gb211) (o := .cells #[.string a0_0, .int .i64 a0_1] 23 (0, 0)) (by (with_reducible repeat (first | refine blk_drewN ?_ _ | refine blk_drew ?_ | refine blk_alloc ?_ _)); exact BK211.out)) : gb222 ≠ gb211)); have n9_ := Aside0.mk ((by rw [hg]; exact Nat.ne_of_lt (blk_lt (g := gb212) (o := .cells #[.int .i64 a1_0, .int .i64 a1_1] 25 (0, 0)) (by (with_reducible repeat (first | refine blk_drewN ?_ _ | refine blk_drew ?_ | refine blk_alloc ?_ _)); exact BK212.out)) : gb212 ≠ gb222)); have n10_ := Aside0.mk ((by rw [hg]; exact Nat.ne_of_gt (blk_lt (g := gb212) (o := .cells #[.int .i64 a1_0, .int .i64 a1_1] 25 (0, 0)) (by (with_reducible repeat (first | refine blk_drewN ?_ _ | refine blk_drew ?_ | refine blk_alloc ?_ _)); exact BK212.out)) : gb222 ≠ gb212)); have n11_ := Aside0.mk ((by rw [hg]; exact Nat.ne_of_lt (blk_lt (g := gb218) (o := .cells #[.string t215, .int .i64 t216] 23 (0, 0)) (by (with_reducible repeat (first | refine blk_drewN ?_ _ | refine blk_drew ?_ | refine blk_alloc ?_ _)); exact BK218.out)) : gb218 ≠ gb222)); have n12_ := Aside0.mk ((by rw [hg]; exact Nat.ne_of_gt (blk_lt (g := gb218) (o := .cells #[.string t215, .int .i64 t216] 23 (0, 0)) (by (with_reducible repeat (first | refine blk_drewN ?_ _ | refine blk_drew ?_ | refine blk_alloc ?_ _)); exact BK218.out)) : gb222 ≠ gb218)); clear BK211; clear BK212; clear BK218; clear HB; have BK211 := n0_; have BK212 := n1_; have BK218 := n2_; have HB := n3_; have BK222 := n4_; have GW222 := n5_; have GE222 := n6_; have NB211_222 := n7_; have NB222_211 := n8_; have NB212_222 := n9_; have NB222_212 := n10_; have NB218_222 := n11_; have NB222_218 := n12_; clear n0_ n1_ n2_ n3_ n4_ n5_ n6_ n7_ n8_ n9_ n10_ n11_ n12_; clear hb hbox hg; have hnb35 := NB222_211.out; have hnc35 := NB211_222.out; have hnb36 := NB222_212.out; have hnc36 := NB212_222.out; have hnb37 := NB222_218.out; have hnc37 := NB218_222.out; have hcz38_0 : w34.cell? ⟨gb222, 0, none⟩ = some (.string (⟨#[]⟩ : ByteArray)) := (blk_cell BK222.out 0).trans rfl; have hcz38_1 : w34.cell? ⟨gb222, 1, none⟩ = some (.int .i64 0) := (blk_cell BK222.out 1).trans rfl; have hfz38_0 := blk_frozen BK222.out 0; have hfz38_1 := blk_frozen BK222.out 1; have hcz39_0 : w34.cell? ⟨gb211, 0, none⟩ = some (.string a0_0) := (blk_cell BK211.out 0).trans rfl; have hcz39_1 : w34.cell? ⟨gb211, 1, none⟩ = some (.int .i64 a0_1) := (blk_cell BK211.out 1).trans rfl; have hfz39_0 := blk_frozen BK211.out 0; have hfz39_1 := blk_frozen BK211.out 1; have hcz40_0 : w34.cell? ⟨gb212, 0, none⟩ = some (.int .i64 a1_0) := (blk_cell BK212.out 0).trans rfl; have hcz40_1 : w34.cell? ⟨gb212, 1, none⟩ = some (.int .i64 a1_1) := (blk_cell BK212.out 1).trans rfl; have hfz40_0 := blk_frozen BK212.out 0; have hfz40_1 := blk_frozen BK212.out 1) | ((with_reducible refine gate_callee (f := 11) rfl ?_); refine goesL_ (some 39) rfl rfl Tryd.func11 (by kernel_rfl) rfl #[.agg #[.string a0_0, .int .i64 a0_1], .agg #[.int .i64 a1_0, .int .i64 a1_1], .int .i64 2] rfl (by (try simp only [List.map_toArray, List.map_cons, List.map_nil]); first | done | rfl | (simp only [List.length_drop, List.length_take]; rfl)) ?_; (with_reducible refine (money_Scale.calls kj2 a0_0 a0_1 a1_0 a1_1 2 t223 t224 t225 _ A20.out).mono ?_); rintro e w41 ⟨rfl, hb⟩; refine ⟨_, rfl, ?_⟩; have n0_ := Aside0.mk (blk_below (g := gb211) (o := .cells #[.string a0_0, .int .i64 a0_1] 23 (0, 0)) (by (with_reducible repeat (first | refine blk_drewN ?_ _ | refine blk_drew ?_ | refine blk_alloc ?_ _)); refine blk_far ?_ NB211_222.out _; (with_reducible repeat (first | refine blk_drewN ?_ _ | refine blk_drew ?_ | refine blk_alloc ?_ _)); refine blk_far ?_ NB211_222.out _; (with_reducible repeat (first | refine blk_drewN ?_ _ | refine blk_drew ?_ | refine blk_alloc ?_ _)); exact BK211.out) hb); have n1_ := Aside0.mk (blk_below (g := gb212) (o := .cells #[.int .i64 a1_0, .int .i64 a1_1] 25 (0, 0)) (by (with_reducible repeat (first | refine blk_drewN ?_ _ | refine blk_drew ?_ | refine blk_alloc ?_ _)); refine blk_far ?_ NB212_222.out _; (with_reducible repeat (first | refine blk_drewN ?_ _ | refine blk_drew ?_ | refine blk_alloc ?_ _)); refine blk_far ?_ NB212_222.out _; (with_reducible repeat (first | refine blk_drewN ?_ _ | refine blk_drew ?_ | refine blk_alloc ?_ _)); exact BK212.out) hb); have n2_ := Aside0.mk (blk_below (g := gb218) (o := .cells #[.string t215, .int .i64 t216] 23 (0, 0)) (by (with_reducible repeat (first | refine blk_drewN ?_ _ | refine blk_drew ?_ | refine blk_alloc ?_ _)); refine blk_far ?_ NB218_222.out _; (with_reducible repeat (first | refine blk_drewN ?_ _ | refine blk_drew ?_ | refine blk_alloc ?_ _)); refine blk_far ?_ NB218_222.out _; (with_reducible repeat (first | refine blk_drewN ?_ _ | refine blk_drew ?_ | refine blk_alloc ?_ _)); exact BK218.out) hb); have n3_ := Aside0.mk (blk_below (g := gb222) (o := .cells #[.string t219, .int .i64 t220] 23 (0, 0)) (by (with_reducible repeat (first | refine blk_drewN ?_ _ | refine blk_drew ?_ | refine blk_alloc ?_ _)); refine blk_put (cs := #[.string t219, .int .i64 0]) ?_ 1 _ rfl; (with_reducible repeat (first | refine blk_drewN ?_ _ | refine blk_drew ?_ | refine blk_alloc ?_ _)); refine blk_put (cs := #[.string (⟨#[]⟩ : ByteArray), .int .i64 0]) ?_ 0 _ rfl; (with_reducible repeat (first | refine blk_drewN ?_ _ | refine blk_drew ?_ | refine blk_alloc ?_ _)); exact BK222.out) hb); have n4_ := Aside0.mk (below_step (by repeat (first | (with_reducible first | exact HB.out | apply below_alloc | apply pw_below_drewN | apply below_drew1 | refine below_set ?_ GE211.out | refine below_set ?_ GE212.out | refine below_set ?_ GE218.out | refine below_set ?_ GE222.out) | exact HB.out)) hb); clear BK211; clear BK212; clear BK218; clear BK222; clear HB; have BK211 := n0_; have BK212 := n1_; have BK218 := n2_; have BK222 := n3_; have HB := n4_; clear n0_ n1_ n2_ n3_ n4_; (try clear hb); (try clear hb2); (try clear hk); (try clear hi)) | ((with_reducible refine gate_dst (N := 9) rfl ?_); refine box_event ?hg (N := 9) ?hd (cs := #[.string (⟨#[]⟩ : ByteArray), .int .i64 0]) (t := 23) ?hr ?_; (case hd => rfl); (case hg => rfl); (case hr => first | (go_simp; done) | (go_simp; rfl)); intro gb226 hg w42 hbox hb; have n0_ := Aside0.mk (blk_below (g := gb211) (o := .cells #[.string a0_0, .int .i64 a0_1] 23 (0, 0)) (by (with_reducible repeat (first | refine blk_drewN ?_ _ | refine blk_drew ?_ | refine blk_alloc ?_ _)); exact BK211.out) hb); have n1_ := Aside0.mk (blk_below (g := gb212) (o := .cells #[.int .i64 a1_0, .int .i64 a1_1] 25 (0, 0)) (by (with_reducible repeat (first | refine blk_drewN ?_ _ | refine blk_drew ?_ | refine blk_alloc ?_ _)); exact BK212.out) hb); have n2_ := Aside0.mk (blk_below (g := gb218) (o := .cells #[.string t215, .int .i64 t216] 23 (0, 0)) (by (with_reducible repeat (first | refine blk_drewN ?_ _ | refine blk_drew ?_ | refine blk_alloc ?_ _)); exact BK218.out) hb); have n3_ := Aside0.mk (blk_below (g := gb222) (o := .cells #[.string t219, .int .i64 t220] 23 (0, 0)) (by (with_reducible repeat (first | refine blk_drewN ?_ _ | refine blk_drew ?_ | refine blk_alloc ?_ _)); exact BK222.out) hb); have n4_ := Aside0.mk (below_step (by repeat (first | (with_reducible first | exact HB.out | apply below_alloc | apply pw_below_drewN | apply below_drew1 | refine below_set ?_ GE211.out | refine below_set ?_ GE212.out | refine below_set ?_ GE218.out | refine below_set ?_ GE222.out) | exact HB.out)) hb); have n5_ := Aside0.mk (hbox); have n6_ := Aside0.mk ((by rw [hg]; exact (below_size (by repeat (first | (with_reducible first | exact HB.out | apply below_alloc | apply pw_below_drewN | apply below_drew1 | refine below_set ?_ GE211.out | refine below_set ?_ GE212.out | refine below_set ?_ GE218.out | refine below_set ?_ GE222.out) | exact HB.out))) : w.heap.size ≤ gb226)); have n7_ := Aside0.mk ((by rw [hg]; exact (below_size (by repeat (first | (with_reducible first | exact HB.out | apply below_alloc | apply pw_below_drewN | apply below_drew1 | refine below_set ?_ GE211.out | refine below_set ?_ GE212.out | refine below_set ?_ GE218.out | refine below_set ?_ GE222.out) | exact HB.out))) : w.heap.size ≤ gb226)); have n8_ := Aside0.mk ((by rw [hg]; exact Nat.ne_of_lt (blk_lt (g := gb211) (o := .cells #[.string a0_0, .int .i64 a0_1] 23 (0, 0)) (by (with_reducible repeat (first | refine blk_drewN ?_ _ | refine blk_drew ?_ | refine blk_alloc ?_ _)); exact BK211.out)) : gb211 ≠ gb226)); have n9_ := Aside0.mk ((by rw [hg]; exact Nat.ne_of_gt (blk_lt (g := gb211) (o := .cells #[.string a0_0, .int .i64 a0_1] 23 (0, 0)) (by (with_reducible repeat (first | refine blk_drewN ?_ _ | refine blk_drew ?_ | refine blk_alloc ?_ _)); exact BK211.out)) : gb226 ≠ gb211)); have n10_ := Aside0.mk ((by rw [hg]; exact Nat.ne_of_lt (blk_lt (g := gb212) (o := .cells #[.int .i64 a1_0, .int .i64 a1_1] 25 (0, 0)) (by (with_reducible repeat (first | refine blk_drewN ?_ _ | refine blk_drew ?_ | refine blk_alloc ?_ _)); exact BK212.out)) : gb212 ≠ gb226)); have n11_ := Aside0.mk ((by rw [hg]; exact Nat.ne_of_gt (blk_lt (g := gb212) (o := .cells #[.int .i64 a1_0, .int .i64 a1_1] 25 (0, 0)) (by (with_reducible repeat (first | refine blk_drewN ?_ _ | refine blk_drew ?_ | refine blk_alloc ?_ _)); exact BK212.out)) : gb226 ≠ gb212)); have n12_ := Aside0.mk ((by rw [hg]; exact Nat.ne_of_lt (blk_lt (g := gb218) (o := .cells #[.string t215, .int .i64 t216] 23 (0, 0)) (by (with_reducible repeat (first | refine blk_drewN ?_ _ | refine blk_drew ?_ | refine blk_alloc ?_ _)); exact BK218.out)) : gb218 ≠ gb226)); have n13_ := Aside0.mk ((by rw [hg]; exact Nat.ne_of_gt (blk_lt (g := gb218) (o := .cells #[.string t215, .int .i64 t216] 23 (0, 0)) (by (with_reducible repeat (first | refine blk_drewN ?_ _ | refine blk_drew ?_ | refine blk_alloc ?_ _)); exact BK218.out)) : gb226 ≠ gb218)); have n14_ := Aside0.mk ((by rw [hg]; exact Nat.ne_of_lt (blk_lt (g := gb222) (o := .cells #[.string t219, .int .i64 t220] 23 (0, 0)) (by (with_reducible repeat (first | refine blk_drewN ?_ _ | refine blk_drew ?_ | refine blk_alloc ?_ _)); exact BK222.out)) : gb222 ≠ gb226)); have n15_ := Aside0.mk ((by rw [hg]; exact Nat.ne_of_gt (blk_lt (g := gb222) (o := .cells #[.string t219, .int .i64 t220] 23 (0, 0)) (by (with_reducible repeat (first | refine blk_drewN ?_ _ | refine blk_drew ?_ | refine blk_alloc ?_ _)); exact BK222.out)) : gb226 ≠ gb222)); clear BK211; clear BK212; clear BK218; clear BK222; clear HB; have BK211 := n0_; have BK212 := n1_; have BK218 := n2_; have BK222 := n3_; have HB := n4_; have BK226 := n5_; have GW226 := n6_; have GE226 := n7_; have NB211_226 := n8_; have NB226_211 := n9_; have NB212_226 := n10_; have NB226_212 := n11_; have NB218_226 := n12_; have NB226_218 := n13_; have NB222_226 := n14_; have NB226_222 := n15_; clear n0_ n1_ n2_ n3_ n4_ n5_ n6_ n7_ n8_ n9_ n10_ n11_ n12_ n13_ n14_ n15_; clear hb hbox hg; have hnb43 := NB226_211.out; have hnc43 := NB211_226.out; have hnb44 := NB226_212.out; have hnc44 := NB212_226.out; have hnb45 := NB226_218.out; have hnc45 := NB218_226.out; have hnb46 := NB226_222.out; have hnc46 := NB222_226.out; have hcz47_0 : w42.cell? ⟨gb226, 0, none⟩ = some (.string (⟨#[]⟩ : ByteArray)) := (blk_cell BK226.out 0).trans rfl; have hcz47_1 : w42.cell? ⟨gb226, 1, none⟩ = some (.int .i64 0) := (blk_cell BK226.out 1).trans rfl; have hfz47_0 := blk_frozen BK226.out 0; have hfz47_1 := blk_frozen BK226.out 1))
     (try simp only [Act.put, sA, s0, s1])
     go_cut [93] (fun v93 wc => ∃ (kq : Nat) (x93_21 : Bool), v93 = .bool x93_21 ∧ Aside0 (supercargolaw01_MoneyRounds.j2 kq x93_21 a0_0 a0_1 a1_0 a1_1 t215 t216 t223 t224 = some r) ∧ Aside0 (kq ≤ kj2) ∧ Aside0 (wc.heap[gb211]? = some (.cells #[.string a0_0, .int .i64 a0_1] 23 (0, 0))) ∧ Aside0 (wc.heap[gb212]? = some (.cells #[.int .i64 a1_0, .int .i64 a1_1] 25 (0, 0))) ∧ Aside0 (wc.heap[gb218]? = some (.cells #[.string t215, .int .i64 t216] 23 (0, 0))) ∧ Aside0 (wc.heap[gb222]? = some (.cells #[.string t219, .int .i64 t220] 23 (0, 0))) ∧ Aside0 (wc.heap[gb226]? = some (.cells #[.string t223, .int .i64 t224] 23 (0, 0))) ∧ Aside0 (Below w.heap.size w wc))
     case first =>
      have H := HC22.out
      clear HC22
      by_cases c48 : t217 = true
      ·subst c48
       have H1 : (if t225 = true then (if t216 > t220 then (supercargolaw01_MoneyRounds.j2 kj2 true a0_0 a0_1 a1_0 a1_1 t215 t216 t223 t224) else (if t216 < (wrap64 (t220 - 1)) then (supercargolaw01_MoneyRounds.j2 kj2 true a0_0 a0_1 a1_0 a1_1 t215 t216 t223 t224) else (if (!(t223.toList == t215.toList) || (!(t224 == t216))) = true then (supercargolaw01_MoneyRounds.j2 kj2 (!(t223.toList == t219.toList) || (!(t224 == t220))) a0_0 a0_1 a1_0 a1_1 t215 t216 t223 t224) else (supercargolaw01_MoneyRounds.j2 kj2 false a0_0 a0_1 a1_0 a1_1 t215 t216 t223 t224)))) else (supercargolaw01_MoneyRounds.j2 kj2 true a0_0 a0_1 a1_0 a1_1 t215 t216 t223 t224)) = some r := by rw [if_pos rfl] at H; exact H
       clear H
       have H := H1
       clear H1
       by_cases c49 : t225 = true
       ·subst c49
        have H1 : (if t216 > t220 then (supercargolaw01_MoneyRounds.j2 kj2 true a0_0 a0_1 a1_0 a1_1 t215 t216 t223 t224) else (if t216 < (wrap64 (t220 - 1)) then (supercargolaw01_MoneyRounds.j2 kj2 true a0_0 a0_1 a1_0 a1_1 t215 t216 t223 t224) else (if (!(t223.toList == t215.toList) || (!(t224 == t216))) = true then (supercargolaw01_MoneyRounds.j2 kj2 (!(t223.toList == t219.toList) || (!(t224 == t220))) a0_0 a0_1 a1_0 a1_1 t215 t216 t223 t224) else (supercargolaw01_MoneyRounds.j2 kj2 false a0_0 a0_1 a1_0 a1_1 t215 t216 t223 t224)))) = some r := by rw [if_pos rfl] at H; exact H
        clear H
        have H := H1
        clear H1
        by_cases c50 : t216 > t220
        ·rw [if_pos c50] at H
         have c50b0 : decide (t220 < t216) = true := decide_eq_true c50
         clear c50
         (first | rw [c50b0] | (simp only [i64_w, i32_w]; rw [c50b0]) | skip)
         have H' := Aside0.mk H
         clear H
         have hnb51 := NB218_211.out
         have hnc51 := NB211_218.out
         have hnb52 := NB218_212.out
         have hnc52 := NB212_218.out
         have hnb53 := NB218_222.out
         have hnc53 := NB222_218.out
         have hnb54 := NB218_226.out
         have hnc54 := NB226_218.out
         have hcz55_0 : w42.cell? ⟨gb218, 0, none⟩ = some (.string t215) := (blk_cell BK218.out 0).trans rfl
         have hcz55_1 : w42.cell? ⟨gb218, 1, none⟩ = some (.int .i64 t216) := (blk_cell BK218.out 1).trans rfl
         have hfz55_0 := blk_frozen BK218.out 0
         have hfz55_1 := blk_frozen BK218.out 1
         have hnb56 := NB222_211.out
         have hnc56 := NB211_222.out
         have hnb57 := NB222_212.out
         have hnc57 := NB212_222.out
         have hnb58 := NB222_226.out
         have hnc58 := NB226_222.out
         have hcz59_0 : w42.cell? ⟨gb222, 0, none⟩ = some (.string t219) := (blk_cell BK222.out 0).trans rfl
         have hcz59_1 : w42.cell? ⟨gb222, 1, none⟩ = some (.int .i64 t220) := (blk_cell BK222.out 1).trans rfl
         have hfz59_0 := blk_frozen BK222.out 0
         have hfz59_1 := blk_frozen BK222.out 1
         go_wp2
         go_meet
         case rel => exact ⟨_, (true), (by first | rfl | (simp; done) | (simp [*]; done)), H', ⟨by have := HJ2.out; first | omega | exact Nat.le_refl _⟩, ⟨by (with_reducible repeat (first | refine blk_drewN ?_ _ | refine blk_drew ?_ | refine blk_alloc ?_ _)); refine blk_far ?_ NB211_226.out _; (with_reducible repeat (first | refine blk_drewN ?_ _ | refine blk_drew ?_ | refine blk_alloc ?_ _)); refine blk_far ?_ NB211_226.out _; (with_reducible repeat (first | refine blk_drewN ?_ _ | refine blk_drew ?_ | refine blk_alloc ?_ _)); exact BK211.out⟩, ⟨by (with_reducible repeat (first | refine blk_drewN ?_ _ | refine blk_drew ?_ | refine blk_alloc ?_ _)); refine blk_far ?_ NB212_226.out _; (with_reducible repeat (first | refine blk_drewN ?_ _ | refine blk_drew ?_ | refine blk_alloc ?_ _)); refine blk_far ?_ NB212_226.out _; (with_reducible repeat (first | refine blk_drewN ?_ _ | refine blk_drew ?_ | refine blk_alloc ?_ _)); exact BK212.out⟩, ⟨by (with_reducible repeat (first | refine blk_drewN ?_ _ | refine blk_drew ?_ | refine blk_alloc ?_ _)); refine blk_far ?_ NB218_226.out _; (with_reducible repeat (first | refine blk_drewN ?_ _ | refine blk_drew ?_ | refine blk_alloc ?_ _)); refine blk_far ?_ NB218_226.out _; (with_reducible repeat (first | refine blk_drewN ?_ _ | refine blk_drew ?_ | refine blk_alloc ?_ _)); exact BK218.out⟩, ⟨by (with_reducible repeat (first | refine blk_drewN ?_ _ | refine blk_drew ?_ | refine blk_alloc ?_ _)); refine blk_far ?_ NB222_226.out _; (with_reducible repeat (first | refine blk_drewN ?_ _ | refine blk_drew ?_ | refine blk_alloc ?_ _)); refine blk_far ?_ NB222_226.out _; (with_reducible repeat (first | refine blk_drewN ?_ _ | refine blk_drew ?_ | refine blk_alloc ?_ _)); exact BK222.out⟩, ⟨by (with_reducible repeat (first | refine blk_drewN ?_ _ | refine blk_drew ?_ | refine blk_alloc ?_ _)); refine blk_put (cs := #[.string t223, .int .i64 0]) ?_ 1 _ rfl; (with_reducible repeat (first | refine blk_drewN ?_ _ | refine blk_drew ?_ | refine blk_alloc ?_ _)); refine blk_put (cs := #[.string (⟨#[]⟩ : ByteArray), .int .i64 0]) ?_ 0 _ rfl; (with_reducible repeat (first | refine blk_drewN ?_ _ | refine blk_drew ?_ | refine blk_alloc ?_ _)); exact BK226.out⟩, ⟨by repeat (first | (with_reducible first | exact HB.out | apply below_alloc | apply pw_below_drewN | apply below_drew1 | refine below_set ?_ GE211.out | refine below_set ?_ GE212.out | refine below_set ?_ GE218.out | refine below_set ?_ GE222.out | refine below_set ?_ GE226.out) | exact HB.out)⟩⟩
        ·rw [if_neg c50] at H
         have c50b0 : decide (t220 < t216) = false := decide_eq_false c50
         clear c50
         (first | rw [c50b0] | (simp only [i64_w, i32_w]; rw [c50b0]) | skip)
         by_cases c60 : t216 < (wrap64 (t220 - 1))
         ·rw [if_pos c60] at H
          have c60b0 : decide (t216 < (wrap64 (t220 - 1))) = true := decide_eq_true c60
          clear c60
          have H' := Aside0.mk H
          clear H
          have hnb61 := NB218_211.out
          have hnc61 := NB211_218.out
          have hnb62 := NB218_212.out
          have hnc62 := NB212_218.out
          have hnb63 := NB218_222.out
          have hnc63 := NB222_218.out
          have hnb64 := NB218_226.out
          have hnc64 := NB226_218.out
          have hcz65_0 : w42.cell? ⟨gb218, 0, none⟩ = some (.string t215) := (blk_cell BK218.out 0).trans rfl
          have hcz65_1 : w42.cell? ⟨gb218, 1, none⟩ = some (.int .i64 t216) := (blk_cell BK218.out 1).trans rfl
          have hfz65_0 := blk_frozen BK218.out 0
          have hfz65_1 := blk_frozen BK218.out 1
          have hnb66 := NB222_211.out
          have hnc66 := NB211_222.out
          have hnb67 := NB222_212.out
          have hnc67 := NB212_222.out
          have hnb68 := NB222_226.out
          have hnc68 := NB226_222.out
          have hcz69_0 : w42.cell? ⟨gb222, 0, none⟩ = some (.string t219) := (blk_cell BK222.out 0).trans rfl
          have hcz69_1 : w42.cell? ⟨gb222, 1, none⟩ = some (.int .i64 t220) := (blk_cell BK222.out 1).trans rfl
          have hfz69_0 := blk_frozen BK222.out 0
          have hfz69_1 := blk_frozen BK222.out 1
          go_wp2
          go_meet
          case rel => exact ⟨_, (true), (by first | rfl | (simp; done) | (simp [*]; done)), H', ⟨by have := HJ2.out; first | omega | exact Nat.le_refl _⟩, ⟨by (with_reducible repeat (first | refine blk_drewN ?_ _ | refine blk_drew ?_ | refine blk_alloc ?_ _)); refine blk_far ?_ NB211_226.out _; (with_reducible repeat (first | refine blk_drewN ?_ _ | refine blk_drew ?_ | refine blk_alloc ?_ _)); refine blk_far ?_ NB211_226.out _; (with_reducible repeat (first | refine blk_drewN ?_ _ | refine blk_drew ?_ | refine blk_alloc ?_ _)); exact BK211.out⟩, ⟨by (with_reducible repeat (first | refine blk_drewN ?_ _ | refine blk_drew ?_ | refine blk_alloc ?_ _)); refine blk_far ?_ NB212_226.out _; (with_reducible repeat (first | refine blk_drewN ?_ _ | refine blk_drew ?_ | refine blk_alloc ?_ _)); refine blk_far ?_ NB212_226.out _; (with_reducible repeat (first | refine blk_drewN ?_ _ | refine blk_drew ?_ | refine blk_alloc ?_ _)); exact BK212.out⟩, ⟨by (with_reducible repeat (first | refine blk_drewN ?_ _ | refine blk_drew ?_ | refine blk_alloc ?_ _)); refine blk_far ?_ NB218_226.out _; (with_reducible repeat (first | refine blk_drewN ?_ _ | refine blk_drew ?_ | refine blk_alloc ?_ _)); refine blk_far ?_ NB218_226.out _; (with_reducible repeat (first | refine blk_drewN ?_ _ | refine blk_drew ?_ | refine blk_alloc ?_ _)); exact BK218.out⟩, ⟨by (with_reducible repeat (first | refine blk_drewN ?_ _ | refine blk_drew ?_ | refine blk_alloc ?_ _)); refine blk_far ?_ NB222_226.out _; (with_reducible repeat (first | refine blk_drewN ?_ _ | refine blk_drew ?_ | refine blk_alloc ?_ _)); refine blk_far ?_ NB222_226.out _; (with_reducible repeat (first | refine blk_drewN ?_ _ | refine blk_drew ?_ | refine blk_alloc ?_ _)); exact BK222.out⟩, ⟨by (with_reducible repeat (first | refine blk_drewN ?_ _ | refine blk_drew ?_ | refine blk_alloc ?_ _)); refine blk_put (cs := #[.string t223, .int .i64 0]) ?_ 1 _ rfl; (with_reducible repeat (first | refine blk_drewN ?_ _ | refine blk_drew ?_ | refine blk_alloc ?_ _)); refine blk_put (cs := #[.string (⟨#[]⟩ : ByteArray), .int .i64 0]) ?_ 0 _ rfl; (with_reducible repeat (first | refine blk_drewN ?_ _ | refine blk_drew ?_ | refine blk_alloc ?_ _)); exact BK226.out⟩, ⟨by repeat (first | (with_reducible first | exact HB.out | apply below_alloc | apply pw_below_drewN | apply below_drew1 | refine below_set ?_ GE211.out | refine below_set ?_ GE212.out | refine below_set ?_ GE218.out | refine below_set ?_ GE222.out | refine below_set ?_ GE226.out) | exact HB.out)⟩⟩
         ·rw [if_neg c60] at H
          have c60b0 : decide (t216 < (wrap64 (t220 - 1))) = false := decide_eq_false c60
          clear c60
          by_cases c70 : (!(t223.toList == t215.toList) || (!(t224 == t216))) = true
          ·rw [if_pos c70] at H
           have c70b0 : (!(t223.toList == t215.toList) || (!(t224 == t216))) = true := c70
           clear c70
           have H' := Aside0.mk H
           clear H
           have hnb71 := NB218_211.out
           have hnc71 := NB211_218.out
           have hnb72 := NB218_212.out
           have hnc72 := NB212_218.out
           have hnb73 := NB218_222.out
           have hnc73 := NB222_218.out
           have hnb74 := NB218_226.out
           have hnc74 := NB226_218.out
           have hcz75_0 : w42.cell? ⟨gb218, 0, none⟩ = some (.string t215) := (blk_cell BK218.out 0).trans rfl
           have hcz75_1 : w42.cell? ⟨gb218, 1, none⟩ = some (.int .i64 t216) := (blk_cell BK218.out 1).trans rfl
           have hfz75_0 := blk_frozen BK218.out 0
           have hfz75_1 := blk_frozen BK218.out 1
           have hnb76 := NB222_211.out
           have hnc76 := NB211_222.out
           have hnb77 := NB222_212.out
           have hnc77 := NB212_222.out
           have hnb78 := NB222_226.out
           have hnc78 := NB226_222.out
           have hcz79_0 : w42.cell? ⟨gb222, 0, none⟩ = some (.string t219) := (blk_cell BK222.out 0).trans rfl
           have hcz79_1 : w42.cell? ⟨gb222, 1, none⟩ = some (.int .i64 t220) := (blk_cell BK222.out 1).trans rfl
           have hfz79_0 := blk_frozen BK222.out 0
           have hfz79_1 := blk_frozen BK222.out 1
           have hnb80 := NB226_211.out
           have hnc80 := NB211_226.out
           have hnb81 := NB226_212.out
           have hnc81 := NB212_226.out
           have hcz82_0 : w42.cell? ⟨gb226, 0, none⟩ = some (.string (⟨#[]⟩ : ByteArray)) := (blk_cell BK226.out 0).trans rfl
           have hcz82_1 : w42.cell? ⟨gb226, 1, none⟩ = some (.int .i64 0) := (blk_cell BK226.out 1).trans rfl
           have hfz82_0 := blk_frozen BK226.out 0
           have hfz82_1 := blk_frozen BK226.out 1
           go_wp2
           go_meet
           case rel => exact ⟨_, ((!(t223.toList == t219.toList) || (!(t224 == t220)))), (by first | rfl | (simp; done) | (simp [*]; done)), H', ⟨by have := HJ2.out; first | omega | exact Nat.le_refl _⟩, ⟨by (with_reducible repeat (first | refine blk_drewN ?_ _ | refine blk_drew ?_ | refine blk_alloc ?_ _)); refine blk_far ?_ NB211_226.out _; (with_reducible repeat (first | refine blk_drewN ?_ _ | refine blk_drew ?_ | refine blk_alloc ?_ _)); refine blk_far ?_ NB211_226.out _; (with_reducible repeat (first | refine blk_drewN ?_ _ | refine blk_drew ?_ | refine blk_alloc ?_ _)); exact BK211.out⟩, ⟨by (with_reducible repeat (first | refine blk_drewN ?_ _ | refine blk_drew ?_ | refine blk_alloc ?_ _)); refine blk_far ?_ NB212_226.out _; (with_reducible repeat (first | refine blk_drewN ?_ _ | refine blk_drew ?_ | refine blk_alloc ?_ _)); refine blk_far ?_ NB212_226.out _; (with_reducible repeat (first | refine blk_drewN ?_ _ | refine blk_drew ?_ | refine blk_alloc ?_ _)); exact BK212.out⟩, ⟨by (with_reducible repeat (first | refine blk_drewN ?_ _ | refine blk_drew ?_ | refine blk_alloc ?_ _)); refine blk_far ?_ NB218_226.out _; (with_reducible repeat (first | refine blk_drewN ?_ _ | refine blk_drew ?_ | refine blk_alloc ?_ _)); refine blk_far ?_ NB218_226.out _; (with_reducible repeat (first | refine blk_drewN ?_ _ | refine blk_drew ?_ | refine blk_alloc ?_ _)); exact BK218.out⟩, ⟨by (with_reducible repeat (first | refine blk_drewN ?_ _ | refine blk_drew ?_ | refine blk_alloc ?_ _)); refine blk_far ?_ NB222_226.out _; (with_reducible repeat (first | refine blk_drewN ?_ _ | refine blk_drew ?_ | refine blk_alloc ?_ _)); refine blk_far ?_ NB222_226.out _; (with_reducible repeat (first | refine blk_drewN ?_ _ | refine blk_drew ?_ | refine blk_alloc ?_ _)); exact BK222.out⟩, ⟨by (with_reducible repeat (first | refine blk_drewN ?_ _ | refine blk_drew ?_ | refine blk_alloc ?_ _)); refine blk_put (cs := #[.string t223, .int .i64 0]) ?_ 1 _ rfl; (with_reducible repeat (first | refine blk_drewN ?_ _ | refine blk_drew ?_ | refine blk_alloc ?_ _)); refine blk_put (cs := #[.string (⟨#[]⟩ : ByteArray), .int .i64 0]) ?_ 0 _ rfl; (with_reducible repeat (first | refine blk_drewN ?_ _ | refine blk_drew ?_ | refine blk_alloc ?_ _)); exact BK226.out⟩, ⟨by repeat (first | (with_reducible first | exact HB.out | apply below_alloc | apply pw_below_drewN | apply below_drew1 | refine below_set ?_ GE211.out | refine below_set ?_ GE212.out | refine below_set ?_ GE218.out | refine below_set ?_ GE222.out | refine below_set ?_ GE226.out) | exact HB.out)⟩⟩
          ·rw [if_neg c70] at H
           have c70b0 : (!(t223.toList == t215.toList) || (!(t224 == t216))) = false := by simpa using c70
           clear c70
           have H' := Aside0.mk H
           clear H
           have hnb83 := NB218_211.out
           have hnc83 := NB211_218.out
           have hnb84 := NB218_212.out
           have hnc84 := NB212_218.out
           have hnb85 := NB218_222.out
           have hnc85 := NB222_218.out
           have hnb86 := NB218_226.out
           have hnc86 := NB226_218.out
           have hcz87_0 : w42.cell? ⟨gb218, 0, none⟩ = some (.string t215) := (blk_cell BK218.out 0).trans rfl
           have hcz87_1 : w42.cell? ⟨gb218, 1, none⟩ = some (.int .i64 t216) := (blk_cell BK218.out 1).trans rfl
           have hfz87_0 := blk_frozen BK218.out 0
           have hfz87_1 := blk_frozen BK218.out 1
           have hnb88 := NB222_211.out
           have hnc88 := NB211_222.out
           have hnb89 := NB222_212.out
           have hnc89 := NB212_222.out
           have hnb90 := NB222_226.out
           have hnc90 := NB226_222.out
           have hcz91_0 : w42.cell? ⟨gb222, 0, none⟩ = some (.string t219) := (blk_cell BK222.out 0).trans rfl
           have hcz91_1 : w42.cell? ⟨gb222, 1, none⟩ = some (.int .i64 t220) := (blk_cell BK222.out 1).trans rfl
           have hfz91_0 := blk_frozen BK222.out 0
           have hfz91_1 := blk_frozen BK222.out 1
           have hnb92 := NB226_211.out
           have hnc92 := NB211_226.out
           have hnb93 := NB226_212.out
           have hnc93 := NB212_226.out
           have hcz94_0 : w42.cell? ⟨gb226, 0, none⟩ = some (.string (⟨#[]⟩ : ByteArray)) := (blk_cell BK226.out 0).trans rfl
           have hcz94_1 : w42.cell? ⟨gb226, 1, none⟩ = some (.int .i64 0) := (blk_cell BK226.out 1).trans rfl
           have hfz94_0 := blk_frozen BK226.out 0
           have hfz94_1 := blk_frozen BK226.out 1
           go_wp2
           go_meet
           case rel => exact ⟨_, (false), (by first | rfl | (simp; done) | (simp [*]; done)), H', ⟨by have := HJ2.out; first | omega | exact Nat.le_refl _⟩, ⟨by (with_reducible repeat (first | refine blk_drewN ?_ _ | refine blk_drew ?_ | refine blk_alloc ?_ _)); refine blk_far ?_ NB211_226.out _; (with_reducible repeat (first | refine blk_drewN ?_ _ | refine blk_drew ?_ | refine blk_alloc ?_ _)); refine blk_far ?_ NB211_226.out _; (with_reducible repeat (first | refine blk_drewN ?_ _ | refine blk_drew ?_ | refine blk_alloc ?_ _)); exact BK211.out⟩, ⟨by (with_reducible repeat (first | refine blk_drewN ?_ _ | refine blk_drew ?_ | refine blk_alloc ?_ _)); refine blk_far ?_ NB212_226.out _; (with_reducible repeat (first | refine blk_drewN ?_ _ | refine blk_drew ?_ | refine blk_alloc ?_ _)); refine blk_far ?_ NB212_226.out _; (with_reducible repeat (first | refine blk_drewN ?_ _ | refine blk_drew ?_ | refine blk_alloc ?_ _)); exact BK212.out⟩, ⟨by (with_reducible repeat (first | refine blk_drewN ?_ _ | refine blk_drew ?_ | refine blk_alloc ?_ _)); refine blk_far ?_ NB218_226.out _; (with_reducible repeat (first | refine blk_drewN ?_ _ | refine blk_drew ?_ | refine blk_alloc ?_ _)); refine blk_far ?_ NB218_226.out _; (with_reducible repeat (first | refine blk_drewN ?_ _ | refine blk_drew ?_ | refine blk_alloc ?_ _)); exact BK218.out⟩, ⟨by (with_reducible repeat (first | refine blk_drewN ?_ _ | refine blk_drew ?_ | refine blk_alloc ?_ _)); refine blk_far ?_ NB222_226.out _; (with_reducible repeat (first | refine blk_drewN ?_ _ | refine blk_drew ?_ | refine blk_alloc ?_ _)); refine blk_far ?_ NB222_226.out _; (with_reducible repeat (first | refine blk_drewN ?_ _ | refine blk_drew ?_ | refine blk_alloc ?_ _)); exact BK222.out⟩, ⟨by (with_reducible repeat (first | refine blk_drewN ?_ _ | refine blk_drew ?_ | refine blk_alloc ?_ _)); refine blk_put (cs := #[.string t223, .int .i64 0]) ?_ 1 _ rfl; (with_reducible repeat (first | refine blk_drewN ?_ _ | refine blk_drew ?_ | refine blk_alloc ?_ _)); refine blk_put (cs := #[.string (⟨#[]⟩ : ByteArray), .int .i64 0]) ?_ 0 _ rfl; (with_reducible repeat (first | refine blk_drewN ?_ _ | refine blk_drew ?_ | refine blk_alloc ?_ _)); exact BK226.out⟩, ⟨by repeat (first | (with_reducible first | exact HB.out | apply below_alloc | apply pw_below_drewN | apply below_drew1 | refine below_set ?_ GE211.out | refine below_set ?_ GE212.out | refine below_set ?_ GE218.out | refine below_set ?_ GE222.out | refine below_set ?_ GE226.out) | exact HB.out)⟩⟩
       ·replace c49 := Bool.eq_false_iff.mpr c49
        subst c49
        have H1 : (supercargolaw01_MoneyRounds.j2 kj2 true a0_0 a0_1 a1_0 a1_1 t215 t216 t223 t224) = some r := by rw [if_neg (show ¬ (false = true) by decide)] at H; exact H
        clear H
        have H := H1
        clear H1
        have H' := Aside0.mk H
        clear H
        go_wp2
        go_meet
        case rel => exact ⟨_, (true), (by first | rfl | (simp; done) | (simp [*]; done)), H', ⟨by have := HJ2.out; first | omega | exact Nat.le_refl _⟩, ⟨by (with_reducible repeat (first | refine blk_drewN ?_ _ | refine blk_drew ?_ | refine blk_alloc ?_ _)); refine blk_far ?_ NB211_226.out _; (with_reducible repeat (first | refine blk_drewN ?_ _ | refine blk_drew ?_ | refine blk_alloc ?_ _)); refine blk_far ?_ NB211_226.out _; (with_reducible repeat (first | refine blk_drewN ?_ _ | refine blk_drew ?_ | refine blk_alloc ?_ _)); exact BK211.out⟩, ⟨by (with_reducible repeat (first | refine blk_drewN ?_ _ | refine blk_drew ?_ | refine blk_alloc ?_ _)); refine blk_far ?_ NB212_226.out _; (with_reducible repeat (first | refine blk_drewN ?_ _ | refine blk_drew ?_ | refine blk_alloc ?_ _)); refine blk_far ?_ NB212_226.out _; (with_reducible repeat (first | refine blk_drewN ?_ _ | refine blk_drew ?_ | refine blk_alloc ?_ _)); exact BK212.out⟩, ⟨by (with_reducible repeat (first | refine blk_drewN ?_ _ | refine blk_drew ?_ | refine blk_alloc ?_ _)); refine blk_far ?_ NB218_226.out _; (with_reducible repeat (first | refine blk_drewN ?_ _ | refine blk_drew ?_ | refine blk_alloc ?_ _)); refine blk_far ?_ NB218_226.out _; (with_reducible repeat (first | refine blk_drewN ?_ _ | refine blk_drew ?_ | refine blk_alloc ?_ _)); exact BK218.out⟩, ⟨by (with_reducible repeat (first | refine blk_drewN ?_ _ | refine blk_drew ?_ | refine blk_alloc ?_ _)); refine blk_far ?_ NB222_226.out _; (with_reducible repeat (first | refine blk_drewN ?_ _ | refine blk_drew ?_ | refine blk_alloc ?_ _)); refine blk_far ?_ NB222_226.out _; (with_reducible repeat (first | refine blk_drewN ?_ _ | refine blk_drew ?_ | refine blk_alloc ?_ _)); exact BK222.out⟩, ⟨by (with_reducible repeat (first | refine blk_drewN ?_ _ | refine blk_drew ?_ | refine blk_alloc ?_ _)); refine blk_put (cs := #[.string t223, .int .i64 0]) ?_ 1 _ rfl; (with_reducible repeat (first | refine blk_drewN ?_ _ | refine blk_drew ?_ | refine blk_alloc ?_ _)); refine blk_put (cs := #[.string (⟨#[]⟩ : ByteArray), .int .i64 0]) ?_ 0 _ rfl; (with_reducible repeat (first | refine blk_drewN ?_ _ | refine blk_drew ?_ | refine blk_alloc ?_ _)); exact BK226.out⟩, ⟨by repeat (first | (with_reducible first | exact HB.out | apply below_alloc | apply pw_below_drewN | apply below_drew1 | refine below_set ?_ GE211.out | refine below_set ?_ GE212.out | refine below_set ?_ GE218.out | refine below_set ?_ GE222.out | refine below_set ?_ GE226.out) | exact HB.out)⟩⟩
      ·replace c48 := Bool.eq_false_iff.mpr c48
       subst c48
       have H1 : (supercargolaw01_MoneyRounds.j2 kj2 true a0_0 a0_1 a1_0 a1_1 t215 t216 t223 t224) = some r := by rw [if_neg (show ¬ (false = true) by decide)] at H; exact H
       clear H
       have H := H1
       clear H1
       have H' := Aside0.mk H
       clear H
       go_wp2
       go_meet
       case rel => exact ⟨_, (true), (by first | rfl | (simp; done) | (simp [*]; done)), H', ⟨by have := HJ2.out; first | omega | exact Nat.le_refl _⟩, ⟨by (with_reducible repeat (first | refine blk_drewN ?_ _ | refine blk_drew ?_ | refine blk_alloc ?_ _)); refine blk_far ?_ NB211_226.out _; (with_reducible repeat (first | refine blk_drewN ?_ _ | refine blk_drew ?_ | refine blk_alloc ?_ _)); refine blk_far ?_ NB211_226.out _; (with_reducible repeat (first | refine blk_drewN ?_ _ | refine blk_drew ?_ | refine blk_alloc ?_ _)); exact BK211.out⟩, ⟨by (with_reducible repeat (first | refine blk_drewN ?_ _ | refine blk_drew ?_ | refine blk_alloc ?_ _)); refine blk_far ?_ NB212_226.out _; (with_reducible repeat (first | refine blk_drewN ?_ _ | refine blk_drew ?_ | refine blk_alloc ?_ _)); refine blk_far ?_ NB212_226.out _; (with_reducible repeat (first | refine blk_drewN ?_ _ | refine blk_drew ?_ | refine blk_alloc ?_ _)); exact BK212.out⟩, ⟨by (with_reducible repeat (first | refine blk_drewN ?_ _ | refine blk_drew ?_ | refine blk_alloc ?_ _)); refine blk_far ?_ NB218_226.out _; (with_reducible repeat (first | refine blk_drewN ?_ _ | refine blk_drew ?_ | refine blk_alloc ?_ _)); refine blk_far ?_ NB218_226.out _; (with_reducible repeat (first | refine blk_drewN ?_ _ | refine blk_drew ?_ | refine blk_alloc ?_ _)); exact BK218.out⟩, ⟨by (with_reducible repeat (first | refine blk_drewN ?_ _ | refine blk_drew ?_ | refine blk_alloc ?_ _)); refine blk_far ?_ NB222_226.out _; (with_reducible repeat (first | refine blk_drewN ?_ _ | refine blk_drew ?_ | refine blk_alloc ?_ _)); refine blk_far ?_ NB222_226.out _; (with_reducible repeat (first | refine blk_drewN ?_ _ | refine blk_drew ?_ | refine blk_alloc ?_ _)); exact BK222.out⟩, ⟨by (with_reducible repeat (first | refine blk_drewN ?_ _ | refine blk_drew ?_ | refine blk_alloc ?_ _)); refine blk_put (cs := #[.string t223, .int .i64 0]) ?_ 1 _ rfl; (with_reducible repeat (first | refine blk_drewN ?_ _ | refine blk_drew ?_ | refine blk_alloc ?_ _)); refine blk_put (cs := #[.string (⟨#[]⟩ : ByteArray), .int .i64 0]) ?_ 0 _ rfl; (with_reducible repeat (first | refine blk_drewN ?_ _ | refine blk_drew ?_ | refine blk_alloc ?_ _)); exact BK226.out⟩, ⟨by repeat (first | (with_reducible first | exact HB.out | apply below_alloc | apply pw_below_drewN | apply below_drew1 | refine below_set ?_ GE211.out | refine below_set ?_ GE212.out | refine below_set ?_ GE218.out | refine below_set ?_ GE222.out | refine below_set ?_ GE226.out) | exact HB.out)⟩⟩
     case rest =>
      clear HC22
      try clear c1
      try clear c2
      try clear p2
      try clear c3
      try clear c4
      try clear c5
      try clear c6
      try clear p6
      try clear c7
      try clear c8
      try clear c9
      try clear c11
      try clear c12
      try clear c13
      try clear c14
      try clear c15
      try clear c21
      try clear c23
      try clear c28
      try clear c29
      try clear c35
      try clear c36
      try clear c37
      try clear c43
      try clear c44
      try clear c45
      try clear c46
      try clear c48
      try clear c49
      try clear c50
      try clear c50b0
      try clear c51
      try clear c52
      try clear c53
      try clear c54
      try clear c56
      try clear c57
      try clear c58
      try clear c60
      try clear c60b0
      try clear c61
      try clear c62
      try clear c63
      try clear c64
      try clear p64
      try clear c66
      try clear c67
      try clear c68
      try clear c70
      try clear c70b0
      try clear c71
      try clear c72
      try clear c73
      try clear c74
      try clear c76
      try clear c77
      try clear c78
      try clear c80
      try clear c81
      try clear c83
      try clear c84
      try clear c85
      try clear c86
      try clear c88
      try clear c89
      try clear c90
      try clear c92
      try clear c93
      try clear hcz11_0
      try clear hcz11_1
      try clear hcz13_0
      try clear hcz13_1
      try clear hcz24_0
      try clear hcz24_1
      try clear hcz25_0
      try clear hcz25_1
      try clear hcz30_0
      try clear hcz30_1
      try clear hcz31_0
      try clear hcz31_1
      try clear hcz32_0
      try clear hcz32_1
      try clear hcz38_0
      try clear hcz38_1
      try clear hcz39_0
      try clear hcz39_1
      try clear hcz40_0
      try clear hcz40_1
      try clear hcz47_0
      try clear hcz47_1
      try clear hcz55_0
      try clear hcz55_1
      try clear hcz59_0
      try clear hcz59_1
      try clear hcz65_0
      try clear hcz65_1
      try clear hcz69_0
      try clear hcz69_1
      try clear hcz75_0
      try clear hcz75_1
      try clear hcz79_0
      try clear hcz79_1
      try clear hcz82_0
      try clear hcz82_1
      try clear hcz87_0
      try clear hcz87_1
      try clear hcz91_0
      try clear hcz91_1
      try clear hcz94_0
      try clear hcz94_1
      try clear hcz9_0
      try clear hcz9_1
      try clear hfz11_0
      try clear hfz11_1
      try clear hfz13_0
      try clear hfz13_1
      try clear hfz24_0
      try clear hfz24_1
      try clear hfz25_0
      try clear hfz25_1
      try clear hfz30_0
      try clear hfz30_1
      try clear hfz31_0
      try clear hfz31_1
      try clear hfz32_0
      try clear hfz32_1
      try clear hfz38_0
      try clear hfz38_1
      try clear hfz39_0
      try clear hfz39_1
      try clear hfz40_0
      try clear hfz40_1
      try clear hfz47_0
      try clear hfz47_1
      try clear hfz55_0
      try clear hfz55_1
      try clear hfz59_0
      try clear hfz59_1
      try clear hfz65_0
      try clear hfz65_1
      try clear hfz69_0
      try clear hfz69_1
      try clear hfz75_0
      try clear hfz75_1
      try clear hfz79_0
      try clear hfz79_1
      try clear hfz82_0
      try clear hfz82_1
      try clear hfz87_0
      try clear hfz87_1
      try clear hfz91_0
      try clear hfz91_1
      try clear hfz94_0
      try clear hfz94_1
      try clear hfz9_0
      try clear hfz9_1
      try clear p2
      obtain ⟨kq, x93_21, rfl, HA, HJ21, BK211, BK212, BK218, BK222, BK226, HB⟩ := hcut
      cases kq with
      | zero => exact absurd HA.out (by simp [supercargolaw01_MoneyRounds.j2])
      | succ kj21 =>
       have H := HA.out
       clear HA
       simp only [supercargolaw01_MoneyRounds.j2] at H
       by_cases c95 : x93_21 = true
       ·subst c95
        have H1 : (some false) = some r := by rw [if_pos rfl] at H; exact H
        clear H
        have H := H1
        clear H1
        obtain rfl := Option.some.inj H
        go_wp2
        go_ret
        exact ⟨by first | rfl | (simp [errW_none, errW_some] <;> rfl) | (simp [*, errW_none, errW_some] <;> rfl), by repeat (first | (with_reducible first | exact HB.out | apply below_alloc | apply pw_below_drewN | apply below_drew1 | refine below_set ?_ GE211.out | refine below_set ?_ GE212.out | refine below_set ?_ GE218.out | refine below_set ?_ GE222.out | refine below_set ?_ GE226.out) | exact HB.out)⟩
       ·replace c95 := Bool.eq_false_iff.mpr c95
        subst c95
        have H1 : ((money_Scale.f kj21 a0_0 (wrap64 (-a0_1)) a1_0 a1_1 0).bind fun bt231 => ((money_Scale.f kj21 a0_0 (wrap64 (-a0_1)) a1_0 a1_1 2).bind fun bt235 => (if bt231.2.2 = true then (if bt235.2.2 = true then (if bt231.2.1 = (wrap64 (-t216)) then (if bt235.2.1 = (wrap64 (-t224)) then ((supercargolaw01_awake.f kj21).bind fun t239 => (supercargolaw01_MoneyRounds.j3 kj21 t239)) else (supercargolaw01_MoneyRounds.j3 kj21 false)) else (supercargolaw01_MoneyRounds.j3 kj21 false)) else (supercargolaw01_MoneyRounds.j3 kj21 false)) else (supercargolaw01_MoneyRounds.j3 kj21 false)))) = some r := by rw [if_neg (show ¬ (false = true) by decide)] at H; exact H
        clear H
        have H := H1
        clear H1
        replace H := Option.bind_eq_some_iff.mp H
        obtain ⟨⟨t231, t232, t233⟩, A960, H⟩ := H
        replace H : ((money_Scale.f kj21 a0_0 (wrap64 (-a0_1)) a1_0 a1_1 2).bind fun bt235 => (if t233 = true then (if bt235.2.2 = true then (if t232 = (wrap64 (-t216)) then (if bt235.2.1 = (wrap64 (-t224)) then ((supercargolaw01_awake.f kj21).bind fun t239 => (supercargolaw01_MoneyRounds.j3 kj21 t239)) else (supercargolaw01_MoneyRounds.j3 kj21 false)) else (supercargolaw01_MoneyRounds.j3 kj21 false)) else (supercargolaw01_MoneyRounds.j3 kj21 false)) else (supercargolaw01_MoneyRounds.j3 kj21 false))) = some r := H
        have A96 := Aside0.mk A960
        clear A960
        replace H := Option.bind_eq_some_iff.mp H
        obtain ⟨⟨t235, t236, t237⟩, A970, H⟩ := H
        replace H : (if t233 = true then (if t237 = true then (if t232 = (wrap64 (-t216)) then (if t236 = (wrap64 (-t224)) then ((supercargolaw01_awake.f kj21).bind fun t239 => (supercargolaw01_MoneyRounds.j3 kj21 t239)) else (supercargolaw01_MoneyRounds.j3 kj21 false)) else (supercargolaw01_MoneyRounds.j3 kj21 false)) else (supercargolaw01_MoneyRounds.j3 kj21 false)) else (supercargolaw01_MoneyRounds.j3 kj21 false)) = some r := H
        have A97 := Aside0.mk A970
        clear A970
        have HC98 := Aside0.mk H
        clear H
        have hnb99 := NB211_212.out
        have hnc99 := NB212_211.out
        have hnb100 := NB211_218.out
        have hnc100 := NB218_211.out
        have hnb101 := NB211_222.out
        have hnc101 := NB222_211.out
        have hnb102 := NB211_226.out
        have hnc102 := NB226_211.out
        have hcz103_0 : wc.cell? ⟨gb211, 0, none⟩ = some (.string a0_0) := (blk_cell BK211.out 0).trans rfl
        have hcz103_1 : wc.cell? ⟨gb211, 1, none⟩ = some (.int .i64 a0_1) := (blk_cell BK211.out 1).trans rfl
        have hfz103_0 := blk_frozen BK211.out 0
        have hfz103_1 := blk_frozen BK211.out 1
        have hnb104 := NB212_218.out
        have hnc104 := NB218_212.out
        have hnb105 := NB212_222.out
        have hnc105 := NB222_212.out
        have hnb106 := NB212_226.out
        have hnc106 := NB226_212.out
        have hcz107_0 : wc.cell? ⟨gb212, 0, none⟩ = some (.int .i64 a1_0) := (blk_cell BK212.out 0).trans rfl
        have hcz107_1 : wc.cell? ⟨gb212, 1, none⟩ = some (.int .i64 a1_1) := (blk_cell BK212.out 1).trans rfl
        have hfz107_0 := blk_frozen BK212.out 0
        have hfz107_1 := blk_frozen BK212.out 1
        go_upto_region 13 with (first | ((with_reducible refine gate_callee (f := 11) rfl ?_); refine goesL_ (some 101) rfl rfl Tryd.func11 (by kernel_rfl) rfl #[.agg #[.string a0_0, .int .i64 (wrap64 (-a0_1))], .agg #[.int .i64 a1_0, .int .i64 a1_1], .int .i64 0] rfl (by (try simp only [List.map_toArray, List.map_cons, List.map_nil]); first | done | rfl | (simp only [List.length_drop, List.length_take]; rfl)) ?_; (with_reducible refine (money_Scale.calls kj21 a0_0 (wrap64 (-a0_1)) a1_0 a1_1 0 t231 t232 t233 _ A96.out).mono ?_); rintro e w108 ⟨rfl, hb⟩; refine ⟨_, rfl, ?_⟩; have n0_ := Aside0.mk (blk_below (g := gb211) (o := .cells #[.string a0_0, .int .i64 (wrap64 (-a0_1))] 23 (0, 0)) (by (with_reducible repeat (first | refine blk_drewN ?_ _ | refine blk_drew ?_ | refine blk_alloc ?_ _)); refine blk_put (cs := #[.string a0_0, .int .i64 a0_1]) ?_ 1 _ rfl; (with_reducible repeat (first | refine blk_drewN ?_ _ | refine blk_drew ?_ | refine blk_alloc ?_ _)); exact BK211.out) hb); have n1_ := Aside0.mk (blk_below (g := gb212) (o := .cells #[.int .i64 a1_0, .int .i64 a1_1] 25 (0, 0)) (by (with_reducible repeat (first | refine blk_drewN ?_ _ | refine blk_drew ?_ | refine blk_alloc ?_ _)); refine blk_far ?_ NB212_211.out _; (with_reducible repeat (first | refine blk_drewN ?_ _ | refine blk_drew ?_ | refine blk_alloc ?_ _)); exact BK212.out) hb); have n2_ := Aside0.mk (blk_below (g := gb218) (o := .cells #[.string t215, .int .i64 t216] 23 (0, 0)) (by (with_reducible repeat (first | refine blk_drewN ?_ _ | refine blk_drew ?_ | refine blk_alloc ?_ _)); refine blk_far ?_ NB218_211.out _; (with_reducible repeat (first | refine blk_drewN ?_ _ | refine blk_drew ?_ | refine blk_alloc ?_ _)); exact BK218.out) hb); have n3_ := Aside0.mk (blk_below (g := gb222) (o := .cells #[.string t219, .int .i64 t220] 23 (0, 0)) (by (with_reducible repeat (first | refine blk_drewN ?_ _ | refine blk_drew ?_ | refine blk_alloc ?_ _)); refine blk_far ?_ NB222_211.out _; (with_reducible repeat (first | refine blk_drewN ?_ _ | refine blk_drew ?_ | refine blk_alloc ?_ _)); exact BK222.out) hb); have n4_ := Aside0.mk (blk_below (g := gb226) (o := .cells #[.string t223, .int .i64 t224] 23 (0, 0)) (by (with_reducible repeat (first | refine blk_drewN ?_ _ | refine blk_drew ?_ | refine blk_alloc ?_ _)); refine blk_far ?_ NB226_211.out _; (with_reducible repeat (first | refine blk_drewN ?_ _ | refine blk_drew ?_ | refine blk_alloc ?_ _)); exact BK226.out) hb); have n5_ := Aside0.mk (below_step (by repeat (first | (with_reducible first | exact HB.out | apply below_alloc | apply pw_below_drewN | apply below_drew1 | refine below_set ?_ GE211.out | refine below_set ?_ GE212.out | refine below_set ?_ GE218.out | refine below_set ?_ GE222.out | refine below_set ?_ GE226.out) | exact HB.out)) hb); clear BK211; clear BK212; clear BK218; clear BK222; clear BK226; clear HB; have BK211 := n0_; have BK212 := n1_; have BK218 := n2_; have BK222 := n3_; have BK226 := n4_; have HB := n5_; clear n0_ n1_ n2_ n3_ n4_ n5_; (try clear hb); (try clear hb2); (try clear hk); (try clear hi)) | ((with_reducible refine gate_dst (N := 11) rfl ?_); refine box_event ?hg (N := 11) ?hd (cs := #[.string (⟨#[]⟩ : ByteArray), .int .i64 0]) (t := 23) ?hr ?_; (case hd => rfl); (case hg => rfl); (case hr => first | (go_simp; done) | (go_simp; rfl)); intro gb234 hg w109 hbox hb; have n0_ := Aside0.mk (blk_below (g := gb211) (o := .cells #[.string a0_0, .int .i64 (wrap64 (-a0_1))] 23 (0, 0)) (by (with_reducible repeat (first | refine blk_drewN ?_ _ | refine blk_drew ?_ | refine blk_alloc ?_ _)); exact BK211.out) hb); have n1_ := Aside0.mk (blk_below (g := gb212) (o := .cells #[.int .i64 a1_0, .int .i64 a1_1] 25 (0, 0)) (by (with_reducible repeat (first | refine blk_drewN ?_ _ | refine blk_drew ?_ | refine blk_alloc ?_ _)); exact BK212.out) hb); have n2_ := Aside0.mk (blk_below (g := gb218) (o := .cells #[.string t215, .int .i64 t216] 23 (0, 0)) (by (with_reducible repeat (first | refine blk_drewN ?_ _ | refine blk_drew ?_ | refine blk_alloc ?_ _)); exact BK218.out) hb); have n3_ := Aside0.mk (blk_below (g := gb222) (o := .cells #[.string t219, .int .i64 t220] 23 (0, 0)) (by (with_reducible repeat (first | refine blk_drewN ?_ _ | refine blk_drew ?_ | refine blk_alloc ?_ _)); exact BK222.out) hb); have n4_ := Aside0.mk (blk_below (g := gb226) (o := .cells #[.string t223, .int .i64 t224] 23 (0, 0)) (by (with_reducible repeat (first | refine blk_drewN ?_ _ | refine blk_drew ?_ | refine blk_alloc ?_ _)); exact BK226.out) hb); have n5_ := Aside0.mk (below_step (by repeat (first | (with_reducible first | exact HB.out | apply below_alloc | apply pw_below_drewN | apply below_drew1 | refine below_set ?_ GE211.out | refine below_set ?_ GE212.out | refine below_set ?_ GE218.out | refine below_set ?_ GE222.out | refine below_set ?_ GE226.out) | exact HB.out)) hb); have n6_ := Aside0.mk (hbox); have n7_ := Aside0.mk ((by rw [hg]; exact (below_size (by repeat (first | (with_reducible first | exact HB.out | apply below_alloc | apply pw_below_drewN | apply below_drew1 | refine below_set ?_ GE211.out | refine below_set ?_ GE212.out | refine below_set ?_ GE218.out | refine below_set ?_ GE222.out | refine below_set ?_ GE226.out) | exact HB.out))) : w.heap.size ≤ gb234)); have n8_ := Aside0.mk ((by rw [hg]; exact (below_size (by repeat (first | (with_reducible first | exact HB.out | apply below_alloc | apply pw_below_drewN | apply below_drew1 | refine below_set ?_ GE211.out | refine below_set ?_ GE212.out | refine below_set ?_ GE218.out | refine below_set ?_ GE222.out | refine below_set ?_ GE226.out) | exact HB.out))) : w.heap.size ≤ gb234)); have n9_ := Aside0.mk ((by rw [hg]; exact Nat.ne_of_lt (blk_lt (g := gb211) (o := .cells #[.string a0_0, .int .i64 (wrap64 (-a0_1))] 23 (0, 0)) (by (with_reducible repeat (first | refine blk_drewN ?_ _ | refine blk_drew ?_ | refine blk_alloc ?_ _)); exact BK211.out)) : gb211 ≠ gb234)); have n10_ := Aside0.mk ((by rw [hg]; exact Nat.ne_of_gt (blk_lt (g := gb211) (o := .cells #[.string a0_0, .int .i64 (wrap64 (-a0_1))] 23 (0, 0)) (by (with_reducible repeat (first | refine blk_drewN ?_ _ | refine blk_drew ?_ | refine blk_alloc ?_ _)); exact BK211.out)) : gb234 ≠ gb211)); have n11_ := Aside0.mk ((by rw [hg]; exact Nat.ne_of_lt (blk_lt (g := gb212) (o := .cells #[.int .i64 a1_0, .int .i64 a1_1] 25 (0, 0)) (by (with_reducible repeat (first | refine blk_drewN ?_ _ | refine blk_drew ?_ | refine blk_alloc ?_ _)); exact BK212.out)) : gb212 ≠ gb234)); have n12_ := Aside0.mk ((by rw [hg]; exact Nat.ne_of_gt (blk_lt (g := gb212) (o := .cells #[.int .i64 a1_0, .int .i64 a1_1] 25 (0, 0)) (by (with_reducible repeat (first | refine blk_drewN ?_ _ | refine blk_drew ?_ | refine blk_alloc ?_ _)); exact BK212.out)) : gb234 ≠ gb212)); have n13_ := Aside0.mk ((by rw [hg]; exact Nat.ne_of_lt (blk_lt (g := gb218) (o := .cells #[.string t215, .int .i64 t216] 23 (0, 0)) (by (with_reducible repeat (first | refine blk_drewN ?_ _ | refine blk_drew ?_ | refine blk_alloc ?_ _)); exact BK218.out)) : gb218 ≠ gb234)); have n14_ := Aside0.mk ((by rw [hg]; exact Nat.ne_of_gt (blk_lt (g := gb218) (o := .cells #[.string t215, .int .i64 t216] 23 (0, 0)) (by (with_reducible repeat (first | refine blk_drewN ?_ _ | refine blk_drew ?_ | refine blk_alloc ?_ _)); exact BK218.out)) : gb234 ≠ gb218)); have n15_ := Aside0.mk ((by rw [hg]; exact Nat.ne_of_lt (blk_lt (g := gb222) (o := .cells #[.string t219, .int .i64 t220] 23 (0, 0)) (by (with_reducible repeat (first | refine blk_drewN ?_ _ | refine blk_drew ?_ | refine blk_alloc ?_ _)); exact BK222.out)) : gb222 ≠ gb234)); have n16_ := Aside0.mk ((by rw [hg]; exact Nat.ne_of_gt (blk_lt (g := gb222) (o := .cells #[.string t219, .int .i64 t220] 23 (0, 0)) (by (with_reducible repeat (first | refine blk_drewN ?_ _ | refine blk_drew ?_ | refine blk_alloc ?_ _)); exact BK222.out)) : gb234 ≠ gb222)); have n17_ := Aside0.mk ((by rw [hg]; exact Nat.ne_of_lt (blk_lt (g := gb226) (o := .cells #[.string t223, .int .i64 t224] 23 (0, 0)) (by (with_reducible repeat (first | refine blk_drewN ?_ _ | refine blk_drew ?_ | refine blk_alloc ?_ _)); exact BK226.out)) : gb226 ≠ gb234)); have n18_ := Aside0.mk ((by rw [hg]; exact Nat.ne_of_gt (blk_lt (g := gb226) (o := .cells #[.string t223, .int .i64 t224] 23 (0, 0)) (by (with_reducible repeat (first | refine blk_drewN ?_ _ | refine blk_drew ?_ | refine blk_alloc ?_ _)); exact BK226.out)) : gb234 ≠ gb226)); clear BK211; clear BK212; clear BK218; clear BK222; clear BK226; clear HB; have BK211 := n0_; have BK212 := n1_; have BK218 := n2_; have BK222 := n3_; have BK226 := n4_; have HB := n5_; have BK234 := n6_; have GW234 := n7_; have GE234 := n8_; have NB211_234 := n9_; have NB234_211 := n10_; have NB212_234 := n11_; have NB234_212 := n12_; have NB218_234 := n13_; have NB234_218 := n14_; have NB222_234 := n15_; have NB234_222 := n16_; have NB226_234 := n17_; have NB234_226 := n18_; clear n0_ n1_ n2_ n3_ n4_ n5_ n6_ n7_ n8_ n9_ n10_ n11_ n12_ n13_ n14_ n15_ n16_ n17_ n18_; clear hb hbox hg; have hnb110 := NB234_211.out; have hnc110 := NB211_234.out; have hnb111 := NB234_212.out; have hnc111 := NB212_234.out; have hnb112 := NB234_218.out; have hnc112 := NB218_234.out; have hnb113 := NB234_222.out; have hnc113 := NB222_234.out; have hnb114 := NB234_226.out; have hnc114 := NB226_234.out; have hcz115_0 : w109.cell? ⟨gb234, 0, none⟩ = some (.string (⟨#[]⟩ : ByteArray)) := (blk_cell BK234.out 0).trans rfl; have hcz115_1 : w109.cell? ⟨gb234, 1, none⟩ = some (.int .i64 0) := (blk_cell BK234.out 1).trans rfl; have hfz115_0 := blk_frozen BK234.out 0; have hfz115_1 := blk_frozen BK234.out 1; have hcz116_0 : w109.cell? ⟨gb211, 0, none⟩ = some (.string a0_0) := (blk_cell BK211.out 0).trans rfl; have hcz116_1 : w109.cell? ⟨gb211, 1, none⟩ = some (.int .i64 (wrap64 (-a0_1))) := (blk_cell BK211.out 1).trans rfl; have hfz116_0 := blk_frozen BK211.out 0; have hfz116_1 := blk_frozen BK211.out 1; have hcz117_0 : w109.cell? ⟨gb212, 0, none⟩ = some (.int .i64 a1_0) := (blk_cell BK212.out 0).trans rfl; have hcz117_1 : w109.cell? ⟨gb212, 1, none⟩ = some (.int .i64 a1_1) := (blk_cell BK212.out 1).trans rfl; have hfz117_0 := blk_frozen BK212.out 0; have hfz117_1 := blk_frozen BK212.out 1) | ((with_reducible refine gate_callee (f := 11) rfl ?_); refine goesL_ (some 107) rfl rfl Tryd.func11 (by kernel_rfl) rfl #[.agg #[.string a0_0, .int .i64 (wrap64 (-a0_1))], .agg #[.int .i64 a1_0, .int .i64 a1_1], .int .i64 2] rfl (by (try simp only [List.map_toArray, List.map_cons, List.map_nil]); first | done | rfl | (simp only [List.length_drop, List.length_take]; rfl)) ?_; (with_reducible refine (money_Scale.calls kj21 a0_0 (wrap64 (-a0_1)) a1_0 a1_1 2 t235 t236 t237 _ A97.out).mono ?_); rintro e w118 ⟨rfl, hb⟩; refine ⟨_, rfl, ?_⟩; have n0_ := Aside0.mk (blk_below (g := gb211) (o := .cells #[.string a0_0, .int .i64 (wrap64 (-a0_1))] 23 (0, 0)) (by (with_reducible repeat (first | refine blk_drewN ?_ _ | refine blk_drew ?_ | refine blk_alloc ?_ _)); refine blk_far ?_ NB211_234.out _; (with_reducible repeat (first | refine blk_drewN ?_ _ | refine blk_drew ?_ | refine blk_alloc ?_ _)); refine blk_far ?_ NB211_234.out _; (with_reducible repeat (first | refine blk_drewN ?_ _ | refine blk_drew ?_ | refine blk_alloc ?_ _)); exact BK211.out) hb); have n1_ := Aside0.mk (blk_below (g := gb212) (o := .cells #[.int .i64 a1_0, .int .i64 a1_1] 25 (0, 0)) (by (with_reducible repeat (first | refine blk_drewN ?_ _ | refine blk_drew ?_ | refine blk_alloc ?_ _)); refine blk_far ?_ NB212_234.out _; (with_reducible repeat (first | refine blk_drewN ?_ _ | refine blk_drew ?_ | refine blk_alloc ?_ _)); refine blk_far ?_ NB212_234.out _; (with_reducible repeat (first | refine blk_drewN ?_ _ | refine blk_drew ?_ | refine blk_alloc ?_ _)); exact BK212.out) hb); have n2_ := Aside0.mk (blk_below (g := gb218) (o := .cells #[.string t215, .int .i64 t216] 23 (0, 0)) (by (with_reducible repeat (first | refine blk_drewN ?_ _ | refine blk_drew ?_ | refine blk_alloc ?_ _)); refine blk_far ?_ NB218_234.out _; (with_reducible repeat (first | refine blk_drewN ?_ _ | refine blk_drew ?_ | refine blk_alloc ?_ _)); refine blk_far ?_ NB218_234.out _; (with_reducible repeat (first | refine blk_drewN ?_ _ | refine blk_drew ?_ | refine blk_alloc ?_ _)); exact BK218.out) hb); have n3_ := Aside0.mk (blk_below (g := gb222) (o := .cells #[.string t219, .int .i64 t220] 23 (0, 0)) (by (with_reducible repeat (first | refine blk_drewN ?_ _ | refine blk_drew ?_ | refine blk_alloc ?_ _)); refine blk_far ?_ NB222_234.out _; (with_reducible repeat (first | refine blk_drewN ?_ _ | refine blk_drew ?_ | refine blk_alloc ?_ _)); refine blk_far ?_ NB222_234.out _; (with_reducible repeat (first | refine blk_drewN ?_ _ | refine blk_drew ?_ | refine blk_alloc ?_ _)); exact BK222.out) hb); have n4_ := Aside0.mk (blk_below (g := gb226) (o := .cells #[.string t223, .int .i64 t224] 23 (0, 0)) (by (with_reducible repeat (first | refine blk_drewN ?_ _ | refine blk_drew ?_ | refine blk_alloc ?_ _)); refine blk_far ?_ NB226_234.out _; (with_reducible repeat (first | refine blk_drewN ?_ _ | refine blk_drew ?_ | refine blk_alloc ?_ _)); refine blk_far ?_ NB226_234.out _; (with_reducible repeat (first | refine blk_drewN ?_ _ | refine blk_drew ?_ | refine blk_alloc ?_ _)); exact BK226.out) hb); have n5_ := Aside0.mk (blk_below (g := gb234) (o := .cells #[.string t231, .int .i64 t232] 23 (0, 0)) (by (with_reducible repeat (first | refine blk_drewN ?_ _ | refine blk_drew ?_ | refine blk_alloc ?_ _)); refine blk_put (cs := #[.string t231, .int .i64 0]) ?_ 1 _ rfl; (with_reducible repeat (first | refine blk_drewN ?_ _ | refine blk_drew ?_ | refine blk_alloc ?_ _)); refine blk_put (cs := #[.string (⟨#[]⟩ : ByteArray), .int .i64 0]) ?_ 0 _ rfl; (with_reducible repeat (first | refine blk_drewN ?_ _ | refine blk_drew ?_ | refine blk_alloc ?_ _)); exact BK234.out) hb); have n6_ := Aside0.mk (below_step (by repeat (first | (with_reducible first | exact HB.out | apply below_alloc | apply pw_below_drewN | apply below_drew1 | refine below_set ?_ GE211.out | refine below_set ?_ GE212.out | refine below_set ?_ GE218.out | refine below_set ?_ GE222.out | refine below_set ?_ GE226.out | refine below_set ?_ GE234.out) | exact HB.out)) hb); clear BK211; clear BK212; clear BK218; clear BK222; clear BK226; clear BK234; clear HB; have BK211 := n0_; have BK212 := n1_; have BK218 := n2_; have BK222 := n3_; have BK226 := n4_; have BK234 := n5_; have HB := n6_; clear n0_ n1_ n2_ n3_ n4_ n5_ n6_; (try clear hb); (try clear hb2); (try clear hk); (try clear hi)) | ((with_reducible refine gate_dst (N := 13) rfl ?_); refine box_event ?hg (N := 13) ?hd (cs := #[.string (⟨#[]⟩ : ByteArray), .int .i64 0]) (t := 23) ?hr ?_; (case hd => rfl); (case hg => rfl); (case hr => first | (go_simp; done) | (go_simp; rfl)); intro gb238 hg w119 hbox hb; have n0_ := Aside0.mk (blk_below (g := gb211) (o := .cells #[.string a0_0, .int .i64 (wrap64 (-a0_1))] 23 (0, 0)) (by (with_reducible repeat (first | refine blk_drewN ?_ _ | refine blk_drew ?_ | refine blk_alloc ?_ _)); exact BK211.out) hb); have n1_ := Aside0.mk (blk_below (g := gb212) (o := .cells #[.int .i64 a1_0, .int .i64 a1_1] 25 (0, 0)) (by (with_reducible repeat (first | refine blk_drewN ?_ _ | refine blk_drew ?_ | refine blk_alloc ?_ _)); exact BK212.out) hb); have n2_ := Aside0.mk (blk_below (g := gb218) (o := .cells #[.string t215, .int .i64 t216] 23 (0, 0)) (by (with_reducible repeat (first | refine blk_drewN ?_ _ | refine blk_drew ?_ | refine blk_alloc ?_ _)); exact BK218.out) hb); have n3_ := Aside0.mk (blk_below (g := gb222) (o := .cells #[.string t219, .int .i64 t220] 23 (0, 0)) (by (with_reducible repeat (first | refine blk_drewN ?_ _ | refine blk_drew ?_ | refine blk_alloc ?_ _)); exact BK222.out) hb); have n4_ := Aside0.mk (blk_below (g := gb226) (o := .cells #[.string t223, .int .i64 t224] 23 (0, 0)) (by (with_reducible repeat (first | refine blk_drewN ?_ _ | refine blk_drew ?_ | refine blk_alloc ?_ _)); exact BK226.out) hb); have n5_ := Aside0.mk (blk_below (g := gb234) (o := .cells #[.string t231, .int .i64 t232] 23 (0, 0)) (by (with_reducible repeat (first | refine blk_drewN ?_ _ | refine blk_drew ?_ | refine blk_alloc ?_ _)); exact BK234.out) hb); have n6_ := Aside0.mk (below_step (by repeat (first | (with_reducible first | exact HB.out | apply below_alloc | apply pw_below_drewN | apply below_drew1 | refine below_set ?_ GE211.out | refine below_set ?_ GE212.out | refine below_set ?_ GE218.out | refine below_set ?_ GE222.out | refine below_set ?_ GE226.out | refine below_set ?_ GE234.out) | exact HB.out)) hb); have n7_ := Aside0.mk (hbox); have n8_ := Aside0.mk ((by rw [hg]; exact (below_size (by repeat (first | (with_reducible first | exact HB.out | apply below_alloc | apply pw_below_drewN | apply below_drew1 | refine below_set ?_ GE211.out | refine below_set ?_ GE212.out | refine below_set ?_ GE218.out | refine below_set ?_ GE222.out | refine below_set ?_ GE226.out | refine below_set ?_ GE234.out) | exact HB.out))) : w.heap.size ≤ gb238)); have n9_ := Aside0.mk ((by rw [hg]; exact (below_size (by repeat (first | (with_reducible first | exact HB.out | apply below_alloc | apply pw_below_drewN | apply below_drew1 | refine below_set ?_ GE211.out | refine below_set ?_ GE212.out | refine below_set ?_ GE218.out | refine below_set ?_ GE222.out | refine below_set ?_ GE226.out | refine below_set ?_ GE234.out) | exact HB.out))) : w.heap.size ≤ gb238)); have n10_ := Aside0.mk ((by rw [hg]; exact Nat.ne_of_lt (blk_lt (g := gb211) (o := .cells #[.string a0_0, .int .i64 (wrap64 (-a0_1))] 23 (0, 0)) (by (with_reducible repeat (first | refine blk_drewN ?_ _ | refine blk_drew ?_ | refine blk_alloc ?_ _)); exact BK211.out)) : gb211 ≠ gb238)); have n11_ := Aside0.mk ((by rw [hg]; exact Nat.ne_of_gt (blk_lt (g := gb211) (o := .cells #[.string a0_0, .int .i64 (wrap64 (-a0_1))] 23 (0, 0)) (by (with_reducible repeat (first | refine blk_drewN ?_ _ | refine blk_drew ?_ | refine blk_alloc ?_ _)); exact BK211.out)) : gb238 ≠ gb211)); have n12_ := Aside0.mk ((by rw [hg]; exact Nat.ne_of_lt (blk_lt (g := gb212) (o := .cells #[.int .i64 a1_0, .int .i64 a1_1] 25 (0, 0)) (by (with_reducible repeat (first | refine blk_drewN ?_ _ | refine blk_drew ?_ | refine blk_alloc ?_ _)); exact BK212.out)) : gb212 ≠ gb238)); have n13_ := Aside0.mk ((by rw [hg]; exact Nat.ne_of_gt (blk_lt (g := gb212) (o := .cells #[.int .i64 a1_0, .int .i64 a1_1] 25 (0, 0)) (by (with_reducible repeat (first | refine blk_drewN ?_ _ | refine blk_drew ?_ | refine blk_alloc ?_ _)); exact BK212.out)) : gb238 ≠ gb212)); have n14_ := Aside0.mk ((by rw [hg]; exact Nat.ne_of_lt (blk_lt (g := gb218) (o := .cells #[.string t215, .int .i64 t216] 23 (0, 0)) (by (with_reducible repeat (first | refine blk_drewN ?_ _ | refine blk_drew ?_ | refine blk_alloc ?_ _)); exact BK218.out)) : gb218 ≠ gb238)); have n15_ := Aside0.mk ((by rw [hg]; exact Nat.ne_of_gt (blk_lt (g := gb218) (o := .cells #[.string t215, .int .i64 t216] 23 (0, 0)) (by (with_reducible repeat (first | refine blk_drewN ?_ _ | refine blk_drew ?_ | refine blk_alloc ?_ _)); exact BK218.out)) : gb238 ≠ gb218)); have n16_ := Aside0.mk ((by rw [hg]; exact Nat.ne_of_lt (blk_lt (g := gb222) (o := .cells #[.string t219, .int .i64 t220] 23 (0, 0)) (by (with_reducible repeat (first | refine blk_drewN ?_ _ | refine blk_drew ?_ | refine blk_alloc ?_ _)); exact BK222.out)) : gb222 ≠ gb238)); have n17_ := Aside0.mk ((by rw [hg]; exact Nat.ne_of_gt (blk_lt (g := gb222) (o := .cells #[.string t219, .int .i64 t220] 23 (0, 0)) (by (with_reducible repeat (first | refine blk_drewN ?_ _ | refine blk_drew ?_ | refine blk_alloc ?_ _)); exact BK222.out)) : gb238 ≠ gb222)); have n18_ := Aside0.mk ((by rw [hg]; exact Nat.ne_of_lt (blk_lt (g := gb226) (o := .cells #[.string t223, .int .i64 t224] 23 (0, 0)) (by (with_reducible repeat (first | refine blk_drewN ?_ _ | refine blk_drew ?_ | refine blk_alloc ?_ _)); exact BK226.out)) : gb226 ≠ gb238)); have n19_ := Aside0.mk ((by rw [hg]; exact Nat.ne_of_gt (blk_lt (g := gb226) (o := .cells #[.string t223, .int .i64 t224] 23 (0, 0)) (by (with_reducible repeat (first | refine blk_drewN ?_ _ | refine blk_drew ?_ | refine blk_alloc ?_ _)); exact BK226.out)) : gb238 ≠ gb226)); have n20_ := Aside0.mk ((by rw [hg]; exact Nat.ne_of_lt (blk_lt (g := gb234) (o := .cells #[.string t231, .int .i64 t232] 23 (0, 0)) (by (with_reducible repeat (first | refine blk_drewN ?_ _ | refine blk_drew ?_ | refine blk_alloc ?_ _)); exact BK234.out)) : gb234 ≠ gb238)); have n21_ := Aside0.mk ((by rw [hg]; exact Nat.ne_of_gt (blk_lt (g := gb234) (o := .cells #[.string t231, .int .i64 t232] 23 (0, 0)) (by (with_reducible repeat (first | refine blk_drewN ?_ _ | refine blk_drew ?_ | refine blk_alloc ?_ _)); exact BK234.out)) : gb238 ≠ gb234)); clear BK211; clear BK212; clear BK218; clear BK222; clear BK226; clear BK234; clear HB; have BK211 := n0_; have BK212 := n1_; have BK218 := n2_; have BK222 := n3_; have BK226 := n4_; have BK234 := n5_; have HB := n6_; have BK238 := n7_; have GW238 := n8_; have GE238 := n9_; have NB211_238 := n10_; have NB238_211 := n11_; have NB212_238 := n12_; have NB238_212 := n13_; have NB218_238 := n14_; have NB238_218 := n15_; have NB222_238 := n16_; have NB238_222 := n17_; have NB226_238 := n18_; have NB238_226 := n19_; have NB234_238 := n20_; have NB238_234 := n21_; clear n0_ n1_ n2_ n3_ n4_ n5_ n6_ n7_ n8_ n9_ n10_ n11_ n12_ n13_ n14_ n15_ n16_ n17_ n18_ n19_ n20_ n21_; clear hb hbox hg; have hnb120 := NB238_211.out; have hnc120 := NB211_238.out; have hnb121 := NB238_212.out; have hnc121 := NB212_238.out; have hnb122 := NB238_218.out; have hnc122 := NB218_238.out; have hnb123 := NB238_222.out; have hnc123 := NB222_238.out; have hnb124 := NB238_226.out; have hnc124 := NB226_238.out; have hnb125 := NB238_234.out; have hnc125 := NB234_238.out; have hcz126_0 : w119.cell? ⟨gb238, 0, none⟩ = some (.string (⟨#[]⟩ : ByteArray)) := (blk_cell BK238.out 0).trans rfl; have hcz126_1 : w119.cell? ⟨gb238, 1, none⟩ = some (.int .i64 0) := (blk_cell BK238.out 1).trans rfl; have hfz126_0 := blk_frozen BK238.out 0; have hfz126_1 := blk_frozen BK238.out 1))
        (try simp only [Act.put, sA, s0, s1])
        go_cut [4] (fun v4 wc => ∃ (kq : Nat) (x4_97 : Bool), v4 = .bool x4_97 ∧ Aside0 (supercargolaw01_MoneyRounds.j3 kq x4_97 = some r) ∧ Aside0 (kq ≤ kj21) ∧ Aside0 (wc.heap[gb211]? = some (.cells #[.string a0_0, .int .i64 (wrap64 (-a0_1))] 23 (0, 0))) ∧ Aside0 (wc.heap[gb212]? = some (.cells #[.int .i64 a1_0, .int .i64 a1_1] 25 (0, 0))) ∧ Aside0 (wc.heap[gb218]? = some (.cells #[.string t215, .int .i64 t216] 23 (0, 0))) ∧ Aside0 (wc.heap[gb222]? = some (.cells #[.string t219, .int .i64 t220] 23 (0, 0))) ∧ Aside0 (wc.heap[gb226]? = some (.cells #[.string t223, .int .i64 t224] 23 (0, 0))) ∧ Aside0 (wc.heap[gb234]? = some (.cells #[.string t231, .int .i64 t232] 23 (0, 0))) ∧ Aside0 (wc.heap[gb238]? = some (.cells #[.string t235, .int .i64 t236] 23 (0, 0))) ∧ Aside0 (Below w.heap.size w wc))
        case first =>
         have H := HC98.out
         clear HC98
         by_cases c127 : t233 = true
         ·subst c127
          have H1 : (if t237 = true then (if t232 = (wrap64 (-t216)) then (if t236 = (wrap64 (-t224)) then ((supercargolaw01_awake.f kj21).bind fun t239 => (supercargolaw01_MoneyRounds.j3 kj21 t239)) else (supercargolaw01_MoneyRounds.j3 kj21 false)) else (supercargolaw01_MoneyRounds.j3 kj21 false)) else (supercargolaw01_MoneyRounds.j3 kj21 false)) = some r := by rw [if_pos rfl] at H; exact H
          clear H
          have H := H1
          clear H1
          by_cases c128 : t237 = true
          ·subst c128
           have H1 : (if t232 = (wrap64 (-t216)) then (if t236 = (wrap64 (-t224)) then ((supercargolaw01_awake.f kj21).bind fun t239 => (supercargolaw01_MoneyRounds.j3 kj21 t239)) else (supercargolaw01_MoneyRounds.j3 kj21 false)) else (supercargolaw01_MoneyRounds.j3 kj21 false)) = some r := by rw [if_pos rfl] at H; exact H
           clear H
           have H := H1
           clear H1
           by_cases c129 : t232 = (wrap64 (-t216))
           ·rw [if_pos c129] at H
            have c129b0 : (t232 == (wrap64 (-t216))) = true := beq_iff_eq.mpr c129
            have c129b1 : (t232 != (wrap64 (-t216))) = false := bne_eq_false_iff_eq.mpr c129
            clear c129
            (first | rw [c129b0] | (simp only [i64_w, i32_w]; rw [c129b0]) | skip)
            by_cases c130 : t236 = (wrap64 (-t224))
            ·rw [if_pos c130] at H
             have c130b0 : (t236 == (wrap64 (-t224))) = true := beq_iff_eq.mpr c130
             have c130b1 : (t236 != (wrap64 (-t224))) = false := bne_eq_false_iff_eq.mpr c130
             clear c130
             replace H := Option.bind_eq_some_iff.mp H
             obtain ⟨t239, A1310, H⟩ := H
             replace H : (supercargolaw01_MoneyRounds.j3 kj21 t239) = some r := H
             have A131 := Aside0.mk A1310
             clear A1310
             have H' := Aside0.mk H
             clear H
             have hnb132 := NB234_211.out
             have hnc132 := NB211_234.out
             have hnb133 := NB234_212.out
             have hnc133 := NB212_234.out
             have hnb134 := NB234_218.out
             have hnc134 := NB218_234.out
             have hnb135 := NB234_222.out
             have hnc135 := NB222_234.out
             have hnb136 := NB234_226.out
             have hnc136 := NB226_234.out
             have hnb137 := NB234_238.out
             have hnc137 := NB238_234.out
             have hcz138_0 : w119.cell? ⟨gb234, 0, none⟩ = some (.string t231) := (blk_cell BK234.out 0).trans rfl
             have hcz138_1 : w119.cell? ⟨gb234, 1, none⟩ = some (.int .i64 t232) := (blk_cell BK234.out 1).trans rfl
             have hfz138_0 := blk_frozen BK234.out 0
             have hfz138_1 := blk_frozen BK234.out 1
             have hnb139 := NB218_211.out
             have hnc139 := NB211_218.out
             have hnb140 := NB218_212.out
             have hnc140 := NB212_218.out
             have hnb141 := NB218_222.out
             have hnc141 := NB222_218.out
             have hnb142 := NB218_226.out
             have hnc142 := NB226_218.out
             have hnb143 := NB218_238.out
             have hnc143 := NB238_218.out
             have hcz144_0 : w119.cell? ⟨gb218, 0, none⟩ = some (.string t215) := (blk_cell BK218.out 0).trans rfl
             have hcz144_1 : w119.cell? ⟨gb218, 1, none⟩ = some (.int .i64 t216) := (blk_cell BK218.out 1).trans rfl
             have hfz144_0 := blk_frozen BK218.out 0
             have hfz144_1 := blk_frozen BK218.out 1
             have hnb145 := NB238_211.out
             have hnc145 := NB211_238.out
             have hnb146 := NB238_212.out
             have hnc146 := NB212_238.out
             have hnb147 := NB238_222.out
             have hnc147 := NB222_238.out
             have hnb148 := NB238_226.out
             have hnc148 := NB226_238.out
             have hcz149_0 : w119.cell? ⟨gb238, 0, none⟩ = some (.string (⟨#[]⟩ : ByteArray)) := (blk_cell BK238.out 0).trans rfl
             have hcz149_1 : w119.cell? ⟨gb238, 1, none⟩ = some (.int .i64 0) := (blk_cell BK238.out 1).trans rfl
             have hfz149_0 := blk_frozen BK238.out 0
             have hfz149_1 := blk_frozen BK238.out 1
             have hnb150 := NB226_211.out
             have hnc150 := NB211_226.out
             have hnb151 := NB226_212.out
             have hnc151 := NB212_226.out
             have hnb152 := NB226_222.out
             have hnc152 := NB222_226.out
             have hcz153_0 : w119.cell? ⟨gb226, 0, none⟩ = some (.string t223) := (blk_cell BK226.out 0).trans rfl
             have hcz153_1 : w119.cell? ⟨gb226, 1, none⟩ = some (.int .i64 t224) := (blk_cell BK226.out 1).trans rfl
             have hfz153_0 := blk_frozen BK226.out 0
             have hfz153_1 := blk_frozen BK226.out 1
             go_wp2_with (first | (go_at_call 13; (with_reducible refine (supercargolaw01_awake.calls kj21  t239 _ ?side1 A131.out).mono ?_); (case side1 => repeat (first | exact HT.out | exact Tabs_below HT.out (by repeat (first | (with_reducible first | exact HB.out | apply below_alloc | apply pw_below_drewN | apply below_drew1 | refine below_set ?_ GE211.out | refine below_set ?_ GE212.out | refine below_set ?_ GE218.out | refine below_set ?_ GE222.out | refine below_set ?_ GE226.out | refine below_set ?_ GE234.out | refine below_set ?_ GE238.out) | exact HB.out)) | (with_reducible refine Tabs_drewN ?_ _) | (with_reducible refine Tabs_drew ?_))); rintro e w154 ⟨rfl, hb⟩; have n0_ := Aside0.mk (blk_below (g := gb211) (o := .cells #[.string a0_0, .int .i64 (wrap64 (-a0_1))] 23 (0, 0)) (by (with_reducible repeat (first | refine blk_drewN ?_ _ | refine blk_drew ?_ | refine blk_alloc ?_ _)); refine blk_far ?_ NB211_238.out _; (with_reducible repeat (first | refine blk_drewN ?_ _ | refine blk_drew ?_ | refine blk_alloc ?_ _)); refine blk_far ?_ NB211_238.out _; (with_reducible repeat (first | refine blk_drewN ?_ _ | refine blk_drew ?_ | refine blk_alloc ?_ _)); exact BK211.out) hb); have n1_ := Aside0.mk (blk_below (g := gb212) (o := .cells #[.int .i64 a1_0, .int .i64 a1_1] 25 (0, 0)) (by (with_reducible repeat (first | refine blk_drewN ?_ _ | refine blk_drew ?_ | refine blk_alloc ?_ _)); refine blk_far ?_ NB212_238.out _; (with_reducible repeat (first | refine blk_drewN ?_ _ | refine blk_drew ?_ | refine blk_alloc ?_ _)); refine blk_far ?_ NB212_238.out _; (with_reducible repeat (first | refine blk_drewN ?_ _ | refine blk_drew ?_ | refine blk_alloc ?_ _)); exact BK212.out) hb); have n2_ := Aside0.mk (blk_below (g := gb218) (o := .cells #[.string t215, .int .i64 t216] 23 (0, 0)) (by (with_reducible repeat (first | refine blk_drewN ?_ _ | refine blk_drew ?_ | refine blk_alloc ?_ _)); refine blk_far ?_ NB218_238.out _; (with_reducible repeat (first | refine blk_drewN ?_ _ | refine blk_drew ?_ | refine blk_alloc ?_ _)); refine blk_far ?_ NB218_238.out _; (with_reducible repeat (first | refine blk_drewN ?_ _ | refine blk_drew ?_ | refine blk_alloc ?_ _)); exact BK218.out) hb); have n3_ := Aside0.mk (blk_below (g := gb222) (o := .cells #[.string t219, .int .i64 t220] 23 (0, 0)) (by (with_reducible repeat (first | refine blk_drewN ?_ _ | refine blk_drew ?_ | refine blk_alloc ?_ _)); refine blk_far ?_ NB222_238.out _; (with_reducible repeat (first | refine blk_drewN ?_ _ | refine blk_drew ?_ | refine blk_alloc ?_ _)); refine blk_far ?_ NB222_238.out _; (with_reducible repeat (first | refine blk_drewN ?_ _ | refine blk_drew ?_ | refine blk_alloc ?_ _)); exact BK222.out) hb); have n4_ := Aside0.mk (blk_below (g := gb226) (o := .cells #[.string t223, .int .i64 t224] 23 (0, 0)) (by (with_reducible repeat (first | refine blk_drewN ?_ _ | refine blk_drew ?_ | refine blk_alloc ?_ _)); refine blk_far ?_ NB226_238.out _; (with_reducible repeat (first | refine blk_drewN ?_ _ | refine blk_drew ?_ | refine blk_alloc ?_ _)); refine blk_far ?_ NB226_238.out _; (with_reducible repeat (first | refine blk_drewN ?_ _ | refine blk_drew ?_ | refine blk_alloc ?_ _)); exact BK226.out) hb); have n5_ := Aside0.mk (blk_below (g := gb234) (o := .cells #[.string t231, .int .i64 t232] 23 (0, 0)) (by (with_reducible repeat (first | refine blk_drewN ?_ _ | refine blk_drew ?_ | refine blk_alloc ?_ _)); refine blk_far ?_ NB234_238.out _; (with_reducible repeat (first | refine blk_drewN ?_ _ | refine blk_drew ?_ | refine blk_alloc ?_ _)); refine blk_far ?_ NB234_238.out _; (with_reducible repeat (first | refine blk_drewN ?_ _ | refine blk_drew ?_ | refine blk_alloc ?_ _)); exact BK234.out) hb); have n6_ := Aside0.mk (blk_below (g := gb238) (o := .cells #[.string t235, .int .i64 t236] 23 (0, 0)) (by (with_reducible repeat (first | refine blk_drewN ?_ _ | refine blk_drew ?_ | refine blk_alloc ?_ _)); refine blk_put (cs := #[.string t235, .int .i64 0]) ?_ 1 _ rfl; (with_reducible repeat (first | refine blk_drewN ?_ _ | refine blk_drew ?_ | refine blk_alloc ?_ _)); refine blk_put (cs := #[.string (⟨#[]⟩ : ByteArray), .int .i64 0]) ?_ 0 _ rfl; (with_reducible repeat (first | refine blk_drewN ?_ _ | refine blk_drew ?_ | refine blk_alloc ?_ _)); exact BK238.out) hb); have n7_ := Aside0.mk (below_step (by repeat (first | (with_reducible first | exact HB.out | apply below_alloc | apply pw_below_drewN | apply below_drew1 | refine below_set ?_ GE211.out | refine below_set ?_ GE212.out | refine below_set ?_ GE218.out | refine below_set ?_ GE222.out | refine below_set ?_ GE226.out | refine below_set ?_ GE234.out | refine below_set ?_ GE238.out) | exact HB.out)) hb); clear BK211; clear BK212; clear BK218; clear BK222; clear BK226; clear BK234; clear BK238; clear HB; have BK211 := n0_; have BK212 := n1_; have BK218 := n2_; have BK222 := n3_; have BK226 := n4_; have BK234 := n5_; have BK238 := n6_; have HB := n7_; clear n0_ n1_ n2_ n3_ n4_ n5_ n6_ n7_; (try clear hb); (try clear hb2); (try clear hk); (try clear hi)))
             go_meet
             case rel => exact ⟨_, (t239), (by first | rfl | (simp; done) | (simp [*]; done)), H', ⟨by have := HJ2.out; have := HJ21.out; first | omega | exact Nat.le_refl _⟩, ⟨by (with_reducible repeat (first | refine blk_drewN ?_ _ | refine blk_drew ?_ | refine blk_alloc ?_ _)); exact BK211.out⟩, ⟨by (with_reducible repeat (first | refine blk_drewN ?_ _ | refine blk_drew ?_ | refine blk_alloc ?_ _)); exact BK212.out⟩, ⟨by (with_reducible repeat (first | refine blk_drewN ?_ _ | refine blk_drew ?_ | refine blk_alloc ?_ _)); exact BK218.out⟩, ⟨by (with_reducible repeat (first | refine blk_drewN ?_ _ | refine blk_drew ?_ | refine blk_alloc ?_ _)); exact BK222.out⟩, ⟨by (with_reducible repeat (first | refine blk_drewN ?_ _ | refine blk_drew ?_ | refine blk_alloc ?_ _)); exact BK226.out⟩, ⟨by (with_reducible repeat (first | refine blk_drewN ?_ _ | refine blk_drew ?_ | refine blk_alloc ?_ _)); exact BK234.out⟩, ⟨by (with_reducible repeat (first | refine blk_drewN ?_ _ | refine blk_drew ?_ | refine blk_alloc ?_ _)); exact BK238.out⟩, ⟨by repeat (first | (with_reducible first | exact HB.out | apply below_alloc | apply pw_below_drewN | apply below_drew1 | refine below_set ?_ GE211.out | refine below_set ?_ GE212.out | refine below_set ?_ GE218.out | refine below_set ?_ GE222.out | refine below_set ?_ GE226.out | refine below_set ?_ GE234.out | refine below_set ?_ GE238.out) | exact HB.out)⟩⟩
            ·rw [if_neg c130] at H
             have c130b0 : (t236 == (wrap64 (-t224))) = false := beq_eq_false_iff_ne.mpr c130
             have c130b1 : (t236 != (wrap64 (-t224))) = true := bne_iff_ne.mpr c130
             have H' := Aside0.mk H
             clear H
             have hnb155 := NB234_211.out
             have hnc155 := NB211_234.out
             have hnb156 := NB234_212.out
             have hnc156 := NB212_234.out
             have hnb157 := NB234_218.out
             have hnc157 := NB218_234.out
             have hnb158 := NB234_222.out
             have hnc158 := NB222_234.out
             have hnb159 := NB234_226.out
             have hnc159 := NB226_234.out
             have hnb160 := NB234_238.out
             have hnc160 := NB238_234.out
             have hcz161_0 : w119.cell? ⟨gb234, 0, none⟩ = some (.string t231) := (blk_cell BK234.out 0).trans rfl
             have hcz161_1 : w119.cell? ⟨gb234, 1, none⟩ = some (.int .i64 t232) := (blk_cell BK234.out 1).trans rfl
             have hfz161_0 := blk_frozen BK234.out 0
             have hfz161_1 := blk_frozen BK234.out 1
             have hnb162 := NB218_211.out
             have hnc162 := NB211_218.out
             have hnb163 := NB218_212.out
             have hnc163 := NB212_218.out
             have hnb164 := NB218_222.out
             have hnc164 := NB222_218.out
             have hnb165 := NB218_226.out
             have hnc165 := NB226_218.out
             have hnb166 := NB218_238.out
             have hnc166 := NB238_218.out
             have hcz167_0 : w119.cell? ⟨gb218, 0, none⟩ = some (.string t215) := (blk_cell BK218.out 0).trans rfl
             have hcz167_1 : w119.cell? ⟨gb218, 1, none⟩ = some (.int .i64 t216) := (blk_cell BK218.out 1).trans rfl
             have hfz167_0 := blk_frozen BK218.out 0
             have hfz167_1 := blk_frozen BK218.out 1
             have hnb168 := NB238_211.out
             have hnc168 := NB211_238.out
             have hnb169 := NB238_212.out
             have hnc169 := NB212_238.out
             have hnb170 := NB238_222.out
             have hnc170 := NB222_238.out
             have hnb171 := NB238_226.out
             have hnc171 := NB226_238.out
             have hcz172_0 : w119.cell? ⟨gb238, 0, none⟩ = some (.string (⟨#[]⟩ : ByteArray)) := (blk_cell BK238.out 0).trans rfl
             have hcz172_1 : w119.cell? ⟨gb238, 1, none⟩ = some (.int .i64 0) := (blk_cell BK238.out 1).trans rfl
             have hfz172_0 := blk_frozen BK238.out 0
             have hfz172_1 := blk_frozen BK238.out 1
             have hnb173 := NB226_211.out
             have hnc173 := NB211_226.out
             have hnb174 := NB226_212.out
             have hnc174 := NB212_226.out
             have hnb175 := NB226_222.out
             have hnc175 := NB222_226.out
             have hcz176_0 : w119.cell? ⟨gb226, 0, none⟩ = some (.string t223) := (blk_cell BK226.out 0).trans rfl
             have hcz176_1 : w119.cell? ⟨gb226, 1, none⟩ = some (.int .i64 t224) := (blk_cell BK226.out 1).trans rfl
             have hfz176_0 := blk_frozen BK226.out 0
             have hfz176_1 := blk_frozen BK226.out 1
             go_wp2
             go_meet
             case rel => exact ⟨_, (false), (by first | rfl | (simp; done) | (simp [*]; done)), H', ⟨by have := HJ2.out; have := HJ21.out; first | omega | exact Nat.le_refl _⟩, ⟨by (with_reducible repeat (first | refine blk_drewN ?_ _ | refine blk_drew ?_ | refine blk_alloc ?_ _)); refine blk_far ?_ NB211_238.out _; (with_reducible repeat (first | refine blk_drewN ?_ _ | refine blk_drew ?_ | refine blk_alloc ?_ _)); refine blk_far ?_ NB211_238.out _; (with_reducible repeat (first | refine blk_drewN ?_ _ | refine blk_drew ?_ | refine blk_alloc ?_ _)); exact BK211.out⟩, ⟨by (with_reducible repeat (first | refine blk_drewN ?_ _ | refine blk_drew ?_ | refine blk_alloc ?_ _)); refine blk_far ?_ NB212_238.out _; (with_reducible repeat (first | refine blk_drewN ?_ _ | refine blk_drew ?_ | refine blk_alloc ?_ _)); refine blk_far ?_ NB212_238.out _; (with_reducible repeat (first | refine blk_drewN ?_ _ | refine blk_drew ?_ | refine blk_alloc ?_ _)); exact BK212.out⟩, ⟨by (with_reducible repeat (first | refine blk_drewN ?_ _ | refine blk_drew ?_ | refine blk_alloc ?_ _)); refine blk_far ?_ NB218_238.out _; (with_reducible repeat (first | refine blk_drewN ?_ _ | refine blk_drew ?_ | refine blk_alloc ?_ _)); refine blk_far ?_ NB218_238.out _; (with_reducible repeat (first | refine blk_drewN ?_ _ | refine blk_drew ?_ | refine blk_alloc ?_ _)); exact BK218.out⟩, ⟨by (with_reducible repeat (first | refine blk_drewN ?_ _ | refine blk_drew ?_ | refine blk_alloc ?_ _)); refine blk_far ?_ NB222_238.out _; (with_reducible repeat (first | refine blk_drewN ?_ _ | refine blk_drew ?_ | refine blk_alloc ?_ _)); refine blk_far ?_ NB222_238.out _; (with_reducible repeat (first | refine blk_drewN ?_ _ | refine blk_drew ?_ | refine blk_alloc ?_ _)); exact BK222.out⟩, ⟨by (with_reducible repeat (first | refine blk_drewN ?_ _ | refine blk_drew ?_ | refine blk_alloc ?_ _)); refine blk_far ?_ NB226_238.out _; (with_reducible repeat (first | refine blk_drewN ?_ _ | refine blk_drew ?_ | refine blk_alloc ?_ _)); refine blk_far ?_ NB226_238.out _; (with_reducible repeat (first | refine blk_drewN ?_ _ | refine blk_drew ?_ | refine blk_alloc ?_ _)); exact BK226.out⟩, ⟨by (with_reducible repeat (first | refine blk_drewN ?_ _ | refine blk_drew ?_ | refine blk_alloc ?_ _)); refine blk_far ?_ NB234_238.out _; (with_reducible repeat (first | refine blk_drewN ?_ _ | refine blk_drew ?_ | refine blk_alloc ?_ _)); refine blk_far ?_ NB234_238.out _; (with_reducible repeat (first | refine blk_drewN ?_ _ | refine blk_drew ?_ | refine blk_alloc ?_ _)); exact BK234.out⟩, ⟨by (with_reducible repeat (first | refine blk_drewN ?_ _ | refine blk_drew ?_ | refine blk_alloc ?_ _)); refine blk_put (cs := #[.string t235, .int .i64 0]) ?_ 1 _ rfl; (with_reducible repeat (first | refine blk_drewN ?_ _ | refine blk_drew ?_ | refine blk_alloc ?_ _)); refine blk_put (cs := #[.string (⟨#[]⟩ : ByteArray), .int .i64 0]) ?_ 0 _ rfl; (with_reducible repeat (first | refine blk_drewN ?_ _ | refine blk_drew ?_ | refine blk_alloc ?_ _)); exact BK238.out⟩, ⟨by repeat (first | (with_reducible first | exact HB.out | apply below_alloc | apply pw_below_drewN | apply below_drew1 | refine below_set ?_ GE211.out | refine below_set ?_ GE212.out | refine below_set ?_ GE218.out | refine below_set ?_ GE222.out | refine below_set ?_ GE226.out | refine below_set ?_ GE234.out | refine below_set ?_ GE238.out) | exact HB.out)⟩⟩
           ·rw [if_neg c129] at H
            have c129b0 : (t232 == (wrap64 (-t216))) = false := beq_eq_false_iff_ne.mpr c129
            have c129b1 : (t232 != (wrap64 (-t216))) = true := bne_iff_ne.mpr c129
            (first | rw [c129b0] | (simp only [i64_w, i32_w]; rw [c129b0]) | skip)
            have H' := Aside0.mk H
            clear H
            have hnb177 := NB234_211.out
            have hnc177 := NB211_234.out
            have hnb178 := NB234_212.out
            have hnc178 := NB212_234.out
            have hnb179 := NB234_218.out
            have hnc179 := NB218_234.out
            have hnb180 := NB234_222.out
            have hnc180 := NB222_234.out
            have hnb181 := NB234_226.out
            have hnc181 := NB226_234.out
            have hnb182 := NB234_238.out
            have hnc182 := NB238_234.out
            have hcz183_0 : w119.cell? ⟨gb234, 0, none⟩ = some (.string t231) := (blk_cell BK234.out 0).trans rfl
            have hcz183_1 : w119.cell? ⟨gb234, 1, none⟩ = some (.int .i64 t232) := (blk_cell BK234.out 1).trans rfl
            have hfz183_0 := blk_frozen BK234.out 0
            have hfz183_1 := blk_frozen BK234.out 1
            have hnb184 := NB218_211.out
            have hnc184 := NB211_218.out
            have hnb185 := NB218_212.out
            have hnc185 := NB212_218.out
            have hnb186 := NB218_222.out
            have hnc186 := NB222_218.out
            have hnb187 := NB218_226.out
            have hnc187 := NB226_218.out
            have hnb188 := NB218_238.out
            have hnc188 := NB238_218.out
            have hcz189_0 : w119.cell? ⟨gb218, 0, none⟩ = some (.string t215) := (blk_cell BK218.out 0).trans rfl
            have hcz189_1 : w119.cell? ⟨gb218, 1, none⟩ = some (.int .i64 t216) := (blk_cell BK218.out 1).trans rfl
            have hfz189_0 := blk_frozen BK218.out 0
            have hfz189_1 := blk_frozen BK218.out 1
            go_wp2
            go_meet
            case rel => exact ⟨_, (false), (by first | rfl | (simp; done) | (simp [*]; done)), H', ⟨by have := HJ2.out; have := HJ21.out; first | omega | exact Nat.le_refl _⟩, ⟨by (with_reducible repeat (first | refine blk_drewN ?_ _ | refine blk_drew ?_ | refine blk_alloc ?_ _)); refine blk_far ?_ NB211_238.out _; (with_reducible repeat (first | refine blk_drewN ?_ _ | refine blk_drew ?_ | refine blk_alloc ?_ _)); refine blk_far ?_ NB211_238.out _; (with_reducible repeat (first | refine blk_drewN ?_ _ | refine blk_drew ?_ | refine blk_alloc ?_ _)); exact BK211.out⟩, ⟨by (with_reducible repeat (first | refine blk_drewN ?_ _ | refine blk_drew ?_ | refine blk_alloc ?_ _)); refine blk_far ?_ NB212_238.out _; (with_reducible repeat (first | refine blk_drewN ?_ _ | refine blk_drew ?_ | refine blk_alloc ?_ _)); refine blk_far ?_ NB212_238.out _; (with_reducible repeat (first | refine blk_drewN ?_ _ | refine blk_drew ?_ | refine blk_alloc ?_ _)); exact BK212.out⟩, ⟨by (with_reducible repeat (first | refine blk_drewN ?_ _ | refine blk_drew ?_ | refine blk_alloc ?_ _)); refine blk_far ?_ NB218_238.out _; (with_reducible repeat (first | refine blk_drewN ?_ _ | refine blk_drew ?_ | refine blk_alloc ?_ _)); refine blk_far ?_ NB218_238.out _; (with_reducible repeat (first | refine blk_drewN ?_ _ | refine blk_drew ?_ | refine blk_alloc ?_ _)); exact BK218.out⟩, ⟨by (with_reducible repeat (first | refine blk_drewN ?_ _ | refine blk_drew ?_ | refine blk_alloc ?_ _)); refine blk_far ?_ NB222_238.out _; (with_reducible repeat (first | refine blk_drewN ?_ _ | refine blk_drew ?_ | refine blk_alloc ?_ _)); refine blk_far ?_ NB222_238.out _; (with_reducible repeat (first | refine blk_drewN ?_ _ | refine blk_drew ?_ | refine blk_alloc ?_ _)); exact BK222.out⟩, ⟨by (with_reducible repeat (first | refine blk_drewN ?_ _ | refine blk_drew ?_ | refine blk_alloc ?_ _)); refine blk_far ?_ NB226_238.out _; (with_reducible repeat (first | refine blk_drewN ?_ _ | refine blk_drew ?_ | refine blk_alloc ?_ _)); refine blk_far ?_ NB226_238.out _; (with_reducible repeat (first | refine blk_drewN ?_ _ | refine blk_drew ?_ | refine blk_alloc ?_ _)); exact BK226.out⟩, ⟨by (with_reducible repeat (first | refine blk_drewN ?_ _ | refine blk_drew ?_ | refine blk_alloc ?_ _)); refine blk_far ?_ NB234_238.out _; (with_reducible repeat (first | refine blk_drewN ?_ _ | refine blk_drew ?_ | refine blk_alloc ?_ _)); refine blk_far ?_ NB234_238.out _; (with_reducible repeat (first | refine blk_drewN ?_ _ | refine blk_drew ?_ | refine blk_alloc ?_ _)); exact BK234.out⟩, ⟨by (with_reducible repeat (first | refine blk_drewN ?_ _ | refine blk_drew ?_ | refine blk_alloc ?_ _)); refine blk_put (cs := #[.string t235, .int .i64 0]) ?_ 1 _ rfl; (with_reducible repeat (first | refine blk_drewN ?_ _ | refine blk_drew ?_ | refine blk_alloc ?_ _)); refine blk_put (cs := #[.string (⟨#[]⟩ : ByteArray), .int .i64 0]) ?_ 0 _ rfl; (with_reducible repeat (first | refine blk_drewN ?_ _ | refine blk_drew ?_ | refine blk_alloc ?_ _)); exact BK238.out⟩, ⟨by repeat (first | (with_reducible first | exact HB.out | apply below_alloc | apply pw_below_drewN | apply below_drew1 | refine below_set ?_ GE211.out | refine below_set ?_ GE212.out | refine below_set ?_ GE218.out | refine below_set ?_ GE222.out | refine below_set ?_ GE226.out | refine below_set ?_ GE234.out | refine below_set ?_ GE238.out) | exact HB.out)⟩⟩
          ·replace c128 := Bool.eq_false_iff.mpr c128
           subst c128
           have H1 : (supercargolaw01_MoneyRounds.j3 kj21 false) = some r := by rw [if_neg (show ¬ (false = true) by decide)] at H; exact H
           clear H
           have H := H1
           clear H1
           have H' := Aside0.mk H
           clear H
           go_wp2
           go_meet
           case rel => exact ⟨_, (false), (by first | rfl | (simp; done) | (simp [*]; done)), H', ⟨by have := HJ2.out; have := HJ21.out; first | omega | exact Nat.le_refl _⟩, ⟨by (with_reducible repeat (first | refine blk_drewN ?_ _ | refine blk_drew ?_ | refine blk_alloc ?_ _)); refine blk_far ?_ NB211_238.out _; (with_reducible repeat (first | refine blk_drewN ?_ _ | refine blk_drew ?_ | refine blk_alloc ?_ _)); refine blk_far ?_ NB211_238.out _; (with_reducible repeat (first | refine blk_drewN ?_ _ | refine blk_drew ?_ | refine blk_alloc ?_ _)); exact BK211.out⟩, ⟨by (with_reducible repeat (first | refine blk_drewN ?_ _ | refine blk_drew ?_ | refine blk_alloc ?_ _)); refine blk_far ?_ NB212_238.out _; (with_reducible repeat (first | refine blk_drewN ?_ _ | refine blk_drew ?_ | refine blk_alloc ?_ _)); refine blk_far ?_ NB212_238.out _; (with_reducible repeat (first | refine blk_drewN ?_ _ | refine blk_drew ?_ | refine blk_alloc ?_ _)); exact BK212.out⟩, ⟨by (with_reducible repeat (first | refine blk_drewN ?_ _ | refine blk_drew ?_ | refine blk_alloc ?_ _)); refine blk_far ?_ NB218_238.out _; (with_reducible repeat (first | refine blk_drewN ?_ _ | refine blk_drew ?_ | refine blk_alloc ?_ _)); refine blk_far ?_ NB218_238.out _; (with_reducible repeat (first | refine blk_drewN ?_ _ | refine blk_drew ?_ | refine blk_alloc ?_ _)); exact BK218.out⟩, ⟨by (with_reducible repeat (first | refine blk_drewN ?_ _ | refine blk_drew ?_ | refine blk_alloc ?_ _)); refine blk_far ?_ NB222_238.out _; (with_reducible repeat (first | refine blk_drewN ?_ _ | refine blk_drew ?_ | refine blk_alloc ?_ _)); refine blk_far ?_ NB222_238.out _; (with_reducible repeat (first | refine blk_drewN ?_ _ | refine blk_drew ?_ | refine blk_alloc ?_ _)); exact BK222.out⟩, ⟨by (with_reducible repeat (first | refine blk_drewN ?_ _ | refine blk_drew ?_ | refine blk_alloc ?_ _)); refine blk_far ?_ NB226_238.out _; (with_reducible repeat (first | refine blk_drewN ?_ _ | refine blk_drew ?_ | refine blk_alloc ?_ _)); refine blk_far ?_ NB226_238.out _; (with_reducible repeat (first | refine blk_drewN ?_ _ | refine blk_drew ?_ | refine blk_alloc ?_ _)); exact BK226.out⟩, ⟨by (with_reducible repeat (first | refine blk_drewN ?_ _ | refine blk_drew ?_ | refine blk_alloc ?_ _)); refine blk_far ?_ NB234_238.out _; (with_reducible repeat (first | refine blk_drewN ?_ _ | refine blk_drew ?_ | refine blk_alloc ?_ _)); refine blk_far ?_ NB234_238.out _; (with_reducible repeat (first | refine blk_drewN ?_ _ | refine blk_drew ?_ | refine blk_alloc ?_ _)); exact BK234.out⟩, ⟨by (with_reducible repeat (first | refine blk_drewN ?_ _ | refine blk_drew ?_ | refine blk_alloc ?_ _)); refine blk_put (cs := #[.string t235, .int .i64 0]) ?_ 1 _ rfl; (with_reducible repeat (first | refine blk_drewN ?_ _ | refine blk_drew ?_ | refine blk_alloc ?_ _)); refine blk_put (cs := #[.string (⟨#[]⟩ : ByteArray), .int .i64 0]) ?_ 0 _ rfl; (with_reducible repeat (first | refine blk_drewN ?_ _ | refine blk_drew ?_ | refine blk_alloc ?_ _)); exact BK238.out⟩, ⟨by repeat (first | (with_reducible first | exact HB.out | apply below_alloc | apply pw_below_drewN | apply below_drew1 | refine below_set ?_ GE211.out | refine below_set ?_ GE212.out | refine below_set ?_ GE218.out | refine below_set ?_ GE222.out | refine below_set ?_ GE226.out | refine below_set ?_ GE234.out | refine below_set ?_ GE238.out) | exact HB.out)⟩⟩
         ·replace c127 := Bool.eq_false_iff.mpr c127
          subst c127
          have H1 : (supercargolaw01_MoneyRounds.j3 kj21 false) = some r := by rw [if_neg (show ¬ (false = true) by decide)] at H; exact H
          clear H
          have H := H1
          clear H1
          have H' := Aside0.mk H
          clear H
          go_wp2
          go_meet
          case rel => exact ⟨_, (false), (by first | rfl | (simp; done) | (simp [*]; done)), H', ⟨by have := HJ2.out; have := HJ21.out; first | omega | exact Nat.le_refl _⟩, ⟨by (with_reducible repeat (first | refine blk_drewN ?_ _ | refine blk_drew ?_ | refine blk_alloc ?_ _)); refine blk_far ?_ NB211_238.out _; (with_reducible repeat (first | refine blk_drewN ?_ _ | refine blk_drew ?_ | refine blk_alloc ?_ _)); refine blk_far ?_ NB211_238.out _; (with_reducible repeat (first | refine blk_drewN ?_ _ | refine blk_drew ?_ | refine blk_alloc ?_ _)); exact BK211.out⟩, ⟨by (with_reducible repeat (first | refine blk_drewN ?_ _ | refine blk_drew ?_ | refine blk_alloc ?_ _)); refine blk_far ?_ NB212_238.out _; (with_reducible repeat (first | refine blk_drewN ?_ _ | refine blk_drew ?_ | refine blk_alloc ?_ _)); refine blk_far ?_ NB212_238.out _; (with_reducible repeat (first | refine blk_drewN ?_ _ | refine blk_drew ?_ | refine blk_alloc ?_ _)); exact BK212.out⟩, ⟨by (with_reducible repeat (first | refine blk_drewN ?_ _ | refine blk_drew ?_ | refine blk_alloc ?_ _)); refine blk_far ?_ NB218_238.out _; (with_reducible repeat (first | refine blk_drewN ?_ _ | refine blk_drew ?_ | refine blk_alloc ?_ _)); refine blk_far ?_ NB218_238.out _; (with_reducible repeat (first | refine blk_drewN ?_ _ | refine blk_drew ?_ | refine blk_alloc ?_ _)); exact BK218.out⟩, ⟨by (with_reducible repeat (first | refine blk_drewN ?_ _ | refine blk_drew ?_ | refine blk_alloc ?_ _)); refine blk_far ?_ NB222_238.out _; (with_reducible repeat (first | refine blk_drewN ?_ _ | refine blk_drew ?_ | refine blk_alloc ?_ _)); refine blk_far ?_ NB222_238.out _; (with_reducible repeat (first | refine blk_drewN ?_ _ | refine blk_drew ?_ | refine blk_alloc ?_ _)); exact BK222.out⟩, ⟨by (with_reducible repeat (first | refine blk_drewN ?_ _ | refine blk_drew ?_ | refine blk_alloc ?_ _)); refine blk_far ?_ NB226_238.out _; (with_reducible repeat (first | refine blk_drewN ?_ _ | refine blk_drew ?_ | refine blk_alloc ?_ _)); refine blk_far ?_ NB226_238.out _; (with_reducible repeat (first | refine blk_drewN ?_ _ | refine blk_drew ?_ | refine blk_alloc ?_ _)); exact BK226.out⟩, ⟨by (with_reducible repeat (first | refine blk_drewN ?_ _ | refine blk_drew ?_ | refine blk_alloc ?_ _)); refine blk_far ?_ NB234_238.out _; (with_reducible repeat (first | refine blk_drewN ?_ _ | refine blk_drew ?_ | refine blk_alloc ?_ _)); refine blk_far ?_ NB234_238.out _; (with_reducible repeat (first | refine blk_drewN ?_ _ | refine blk_drew ?_ | refine blk_alloc ?_ _)); exact BK234.out⟩, ⟨by (with_reducible repeat (first | refine blk_drewN ?_ _ | refine blk_drew ?_ | refine blk_alloc ?_ _)); refine blk_put (cs := #[.string t235, .int .i64 0]) ?_ 1 _ rfl; (with_reducible repeat (first | refine blk_drewN ?_ _ | refine blk_drew ?_ | refine blk_alloc ?_ _)); refine blk_put (cs := #[.string (⟨#[]⟩ : ByteArray), .int .i64 0]) ?_ 0 _ rfl; (with_reducible repeat (first | refine blk_drewN ?_ _ | refine blk_drew ?_ | refine blk_alloc ?_ _)); exact BK238.out⟩, ⟨by repeat (first | (with_reducible first | exact HB.out | apply below_alloc | apply pw_below_drewN | apply below_drew1 | refine below_set ?_ GE211.out | refine below_set ?_ GE212.out | refine below_set ?_ GE218.out | refine below_set ?_ GE222.out | refine below_set ?_ GE226.out | refine below_set ?_ GE234.out | refine below_set ?_ GE238.out) | exact HB.out)⟩⟩
        case rest =>
         clear HC98
         try clear c1
         try clear c2
         try clear p2
         try clear c3
         try clear c4
         try clear c5
         try clear c6
         try clear p6
         try clear c7
         try clear c8
         try clear c9
         try clear c10
         try clear c11
         try clear c12
         try clear c13
         try clear c14
         try clear c15
         try clear c16
         try clear c17
         try clear c18
         try clear c21
         try clear c23
         try clear c28
         try clear c29
         try clear c35
         try clear c36
         try clear c37
         try clear c43
         try clear c44
         try clear c45
         try clear c46
         try clear c48
         try clear c49
         try clear c50
         try clear c50b0
         try clear c51
         try clear c52
         try clear c53
         try clear c54
         try clear c56
         try clear c57
         try clear c58
         try clear c60
         try clear c60b0
         try clear c61
         try clear c62
         try clear c63
         try clear c64
         try clear p64
         try clear c66
         try clear c67
         try clear c68
         try clear c70
         try clear c70b0
         try clear c71
         try clear c72
         try clear c73
         try clear c74
         try clear c76
         try clear c77
         try clear c78
         try clear c80
         try clear c81
         try clear c83
         try clear c84
         try clear c85
         try clear c86
         try clear c88
         try clear c89
         try clear c90
         try clear c92
         try clear c93
         try clear c95
         try clear c99
         try clear c100
         try clear c101
         try clear c102
         try clear c104
         try clear c105
         try clear c106
         try clear c110
         try clear c111
         try clear c112
         try clear c113
         try clear c114
         try clear c120
         try clear c121
         try clear c122
         try clear c123
         try clear c124
         try clear c125
         try clear c127
         try clear c128
         try clear c129
         try clear c129b0
         try clear c129b1
         try clear c130
         try clear c130b0
         try clear c130b1
         try clear c132
         try clear c133
         try clear c134
         try clear c135
         try clear c136
         try clear c137
         try clear c139
         try clear c140
         try clear c141
         try clear c142
         try clear c143
         try clear c145
         try clear c146
         try clear c147
         try clear c148
         try clear c150
         try clear c151
         try clear c152
         try clear c155
         try clear c156
         try clear c157
         try clear c158
         try clear c159
         try clear c160
         try clear c162
         try clear c163
         try clear c164
         try clear c165
         try clear c166
         try clear c168
         try clear c169
         try clear c170
         try clear c171
         try clear c173
         try clear c174
         try clear c175
         try clear c177
         try clear c178
         try clear c179
         try clear c180
         try clear c181
         try clear c182
         try clear c184
         try clear c185
         try clear c186
         try clear c187
         try clear c188
         try clear hcz103_0
         try clear hcz103_1
         try clear hcz107_0
         try clear hcz107_1
         try clear hcz115_0
         try clear hcz115_1
         try clear hcz116_0
         try clear hcz116_1
         try clear hcz117_0
         try clear hcz117_1
         try clear hcz11_0
         try clear hcz11_1
         try clear hcz126_0
         try clear hcz126_1
         try clear hcz138_0
         try clear hcz138_1
         try clear hcz13_0
         try clear hcz13_1
         try clear hcz144_0
         try clear hcz144_1
         try clear hcz149_0
         try clear hcz149_1
         try clear hcz153_0
         try clear hcz153_1
         try clear hcz161_0
         try clear hcz161_1
         try clear hcz167_0
         try clear hcz167_1
         try clear hcz172_0
         try clear hcz172_1
         try clear hcz176_0
         try clear hcz176_1
         try clear hcz183_0
         try clear hcz183_1
         try clear hcz189_0
         try clear hcz189_1
         try clear hcz24_0
         try clear hcz24_1
         try clear hcz25_0
         try clear hcz25_1
         try clear hcz30_0
         try clear hcz30_1
         try clear hcz31_0
         try clear hcz31_1
         try clear hcz32_0
         try clear hcz32_1
         try clear hcz38_0
         try clear hcz38_1
         try clear hcz39_0
         try clear hcz39_1
         try clear hcz40_0
         try clear hcz40_1
         try clear hcz47_0
         try clear hcz47_1
         try clear hcz55_0
         try clear hcz55_1
         try clear hcz59_0
         try clear hcz59_1
         try clear hcz65_0
         try clear hcz65_1
         try clear hcz69_0
         try clear hcz69_1
         try clear hcz75_0
         try clear hcz75_1
         try clear hcz79_0
         try clear hcz79_1
         try clear hcz82_0
         try clear hcz82_1
         try clear hcz87_0
         try clear hcz87_1
         try clear hcz91_0
         try clear hcz91_1
         try clear hcz94_0
         try clear hcz94_1
         try clear hcz9_0
         try clear hcz9_1
         try clear hfz103_0
         try clear hfz103_1
         try clear hfz107_0
         try clear hfz107_1
         try clear hfz115_0
         try clear hfz115_1
         try clear hfz116_0
         try clear hfz116_1
         try clear hfz117_0
         try clear hfz117_1
         try clear hfz11_0
         try clear hfz11_1
         try clear hfz126_0
         try clear hfz126_1
         try clear hfz138_0
         try clear hfz138_1
         try clear hfz13_0
         try clear hfz13_1
         try clear hfz144_0
         try clear hfz144_1
         try clear hfz149_0
         try clear hfz149_1
         try clear hfz153_0
         try clear hfz153_1
         try clear hfz161_0
         try clear hfz161_1
         try clear hfz167_0
         try clear hfz167_1
         try clear hfz172_0
         try clear hfz172_1
         try clear hfz176_0
         try clear hfz176_1
         try clear hfz183_0
         try clear hfz183_1
         try clear hfz189_0
         try clear hfz189_1
         try clear hfz24_0
         try clear hfz24_1
         try clear hfz25_0
         try clear hfz25_1
         try clear hfz30_0
         try clear hfz30_1
         try clear hfz31_0
         try clear hfz31_1
         try clear hfz32_0
         try clear hfz32_1
         try clear hfz38_0
         try clear hfz38_1
         try clear hfz39_0
         try clear hfz39_1
         try clear hfz40_0
         try clear hfz40_1
         try clear hfz47_0
         try clear hfz47_1
         try clear hfz55_0
         try clear hfz55_1
         try clear hfz59_0
         try clear hfz59_1
         try clear hfz65_0
         try clear hfz65_1
         try clear hfz69_0
         try clear hfz69_1
         try clear hfz75_0
         try clear hfz75_1
         try clear hfz79_0
         try clear hfz79_1
         try clear hfz82_0
         try clear hfz82_1
         try clear hfz87_0
         try clear hfz87_1
         try clear hfz91_0
         try clear hfz91_1
         try clear hfz94_0
         try clear hfz94_1
         try clear hfz9_0
         try clear hfz9_1
         try clear p2
         try clear p6
         try clear p64
         obtain ⟨kq, x4_97, rfl, HA, HJ97, BK211, BK212, BK218, BK222, BK226, BK234, BK238, HB⟩ := hcut
         cases kq with
         | zero => exact absurd HA.out (by simp [supercargolaw01_MoneyRounds.j3])
         | succ kj97 =>
          have H := HA.out
          clear HA
          simp only [supercargolaw01_MoneyRounds.j3] at H
          obtain rfl := Option.some.inj H
          go_wp2
          go_ret
          exact ⟨by first | rfl | (simp [errW_none, errW_some] <;> rfl) | (simp [*, errW_none, errW_some] <;> rfl), by repeat (first | (with_reducible first | exact HB.out | apply below_alloc | apply pw_below_drewN | apply below_drew1 | refine below_set ?_ GE211.out | refine below_set ?_ GE212.out | refine below_set ?_ GE218.out | refine below_set ?_ GE222.out | refine below_set ?_ GE226.out | refine below_set ?_ GE234.out | refine below_set ?_ GE238.out) | exact HB.out)⟩
    ·replace c21 := Bool.eq_false_iff.mpr c21
     subst c21
     have H1 : (if t217 = true then (if t216 = 1099511627776 then (if t225 = true then (if (t223.toList == t215.toList && (t224 == t216)) = true then ((supercargolaw01_awake.f kj2).bind fun t227 => (supercargolaw01_MoneyRounds.j1 kj2 t227)) else (supercargolaw01_MoneyRounds.j1 kj2 false)) else ((supercargolaw01_awake.f kj2).bind fun t228 => (supercargolaw01_MoneyRounds.j1 kj2 t228))) else (supercargolaw01_MoneyRounds.j1 kj2 false)) else (if t225 = true then (if (t223.toList == t215.toList && (t224 == t216)) = true then ((supercargolaw01_awake.f kj2).bind fun t229 => (supercargolaw01_MoneyRounds.j1 kj2 t229)) else (supercargolaw01_MoneyRounds.j1 kj2 false)) else ((supercargolaw01_awake.f kj2).bind fun t230 => (supercargolaw01_MoneyRounds.j1 kj2 t230)))) = some r := by rw [if_neg (show ¬ (false = true) by decide)] at H; exact H
     clear H
     have H := H1
     clear H1
     have HC190 := Aside0.mk H
     clear H
     have hnb191 := NB211_212.out
     have hnc191 := NB212_211.out
     have hcz192_0 : wc.cell? ⟨gb211, 0, none⟩ = some (.string a0_0) := (blk_cell BK211.out 0).trans rfl
     have hcz192_1 : wc.cell? ⟨gb211, 1, none⟩ = some (.int .i64 a0_1) := (blk_cell BK211.out 1).trans rfl
     have hfz192_0 := blk_frozen BK211.out 0
     have hfz192_1 := blk_frozen BK211.out 1
     have hcz193_0 : wc.cell? ⟨gb212, 0, none⟩ = some (.int .i64 a1_0) := (blk_cell BK212.out 0).trans rfl
     have hcz193_1 : wc.cell? ⟨gb212, 1, none⟩ = some (.int .i64 a1_1) := (blk_cell BK212.out 1).trans rfl
     have hfz193_0 := blk_frozen BK212.out 0
     have hfz193_1 := blk_frozen BK212.out 1
     go_upto_region 7 with (first | ((with_reducible refine gate_callee (f := 11) rfl ?_); refine goesL_ (some 27) rfl rfl Tryd.func11 (by kernel_rfl) rfl #[.agg #[.string a0_0, .int .i64 a0_1], .agg #[.int .i64 a1_0, .int .i64 a1_1], .int .i64 0] rfl (by (try simp only [List.map_toArray, List.map_cons, List.map_nil]); first | done | rfl | (simp only [List.length_drop, List.length_take]; rfl)) ?_; (with_reducible refine (money_Scale.calls kj2 a0_0 a0_1 a1_0 a1_1 0 t215 t216 t217 _ A18.out).mono ?_); rintro e w194 ⟨rfl, hb⟩; refine ⟨_, rfl, ?_⟩; have n0_ := Aside0.mk (blk_below (g := gb211) (o := .cells #[.string a0_0, .int .i64 a0_1] 23 (0, 0)) (by (with_reducible repeat (first | refine blk_drewN ?_ _ | refine blk_drew ?_ | refine blk_alloc ?_ _)); exact BK211.out) hb); have n1_ := Aside0.mk (blk_below (g := gb212) (o := .cells #[.int .i64 a1_0, .int .i64 a1_1] 25 (0, 0)) (by (with_reducible repeat (first | refine blk_drewN ?_ _ | refine blk_drew ?_ | refine blk_alloc ?_ _)); exact BK212.out) hb); have n2_ := Aside0.mk (below_step (by repeat (first | (with_reducible first | exact HB.out | apply below_alloc | apply pw_below_drewN | apply below_drew1 | refine below_set ?_ GE211.out | refine below_set ?_ GE212.out) | exact HB.out)) hb); clear BK211; clear BK212; clear HB; have BK211 := n0_; have BK212 := n1_; have HB := n2_; clear n0_ n1_ n2_; (try clear hb); (try clear hb2); (try clear hk); (try clear hi)) | ((with_reducible refine gate_dst (N := 5) rfl ?_); refine box_event ?hg (N := 5) ?hd (cs := #[.string (⟨#[]⟩ : ByteArray), .int .i64 0]) (t := 23) ?hr ?_; (case hd => rfl); (case hg => rfl); (case hr => first | (go_simp; done) | (go_simp; rfl)); intro gb218 hg w195 hbox hb; have n0_ := Aside0.mk (blk_below (g := gb211) (o := .cells #[.string a0_0, .int .i64 a0_1] 23 (0, 0)) (by (with_reducible repeat (first | refine blk_drewN ?_ _ | refine blk_drew ?_ | refine blk_alloc ?_ _)); exact BK211.out) hb); have n1_ := Aside0.mk (blk_below (g := gb212) (o := .cells #[.int .i64 a1_0, .int .i64 a1_1] 25 (0, 0)) (by (with_reducible repeat (first | refine blk_drewN ?_ _ | refine blk_drew ?_ | refine blk_alloc ?_ _)); exact BK212.out) hb); have n2_ := Aside0.mk (below_step (by repeat (first | (with_reducible first | exact HB.out | apply below_alloc | apply pw_below_drewN | apply below_drew1 | refine below_set ?_ GE211.out | refine below_set ?_ GE212.out) | exact HB.out)) hb); have n3_ := Aside0.mk (hbox); have n4_ := Aside0.mk ((by rw [hg]; exact (below_size (by repeat (first | (with_reducible first | exact HB.out | apply below_alloc | apply pw_below_drewN | apply below_drew1 | refine below_set ?_ GE211.out | refine below_set ?_ GE212.out) | exact HB.out))) : w.heap.size ≤ gb218)); have n5_ := Aside0.mk ((by rw [hg]; exact (below_size (by repeat (first | (with_reducible first | exact HB.out | apply below_alloc | apply pw_below_drewN | apply below_drew1 | refine below_set ?_ GE211.out | refine below_set ?_ GE212.out) | exact HB.out))) : w.heap.size ≤ gb218)); have n6_ := Aside0.mk ((by rw [hg]; exact Nat.ne_of_lt (blk_lt (g := gb211) (o := .cells #[.string a0_0, .int .i64 a0_1] 23 (0, 0)) (by (with_reducible repeat (first | refine blk_drewN ?_ _ | refine blk_drew ?_ | refine blk_alloc ?_ _)); exact BK211.out)) : gb211 ≠ gb218)); have n7_ := Aside0.mk ((by rw [hg]; exact Nat.ne_of_gt (blk_lt (g := gb211) (o := .cells #[.string a0_0, .int .i64 a0_1] 23 (0, 0)) (by (with_reducible repeat (first | refine blk_drewN ?_ _ | refine blk_drew ?_ | refine blk_alloc ?_ _)); exact BK211.out)) : gb218 ≠ gb211)); have n8_ := Aside0.mk ((by rw [hg]; exact Nat.ne_of_lt (blk_lt (g := gb212) (o := .cells #[.int .i64 a1_0, .int .i64 a1_1] 25 (0, 0)) (by (with_reducible repeat (first | refine blk_drewN ?_ _ | refine blk_drew ?_ | refine blk_alloc ?_ _)); exact BK212.out)) : gb212 ≠ gb218)); have n9_ := Aside0.mk ((by rw [hg]; exact Nat.ne_of_gt (blk_lt (g := gb212) (o := .cells #[.int .i64 a1_0, .int .i64 a1_1] 25 (0, 0)) (by (with_reducible repeat (first | refine blk_drewN ?_ _ | refine blk_drew ?_ | refine blk_alloc ?_ _)); exact BK212.out)) : gb218 ≠ gb212)); clear BK211; clear BK212; clear HB; have BK211 := n0_; have BK212 := n1_; have HB := n2_; have BK218 := n3_; have GW218 := n4_; have GE218 := n5_; have NB211_218 := n6_; have NB218_211 := n7_; have NB212_218 := n8_; have NB218_212 := n9_; clear n0_ n1_ n2_ n3_ n4_ n5_ n6_ n7_ n8_ n9_; clear hb hbox hg; have hnb196 := NB218_211.out; have hnc196 := NB211_218.out; have hnb197 := NB218_212.out; have hnc197 := NB212_218.out; have hcz198_0 : w195.cell? ⟨gb218, 0, none⟩ = some (.string (⟨#[]⟩ : ByteArray)) := (blk_cell BK218.out 0).trans rfl; have hcz198_1 : w195.cell? ⟨gb218, 1, none⟩ = some (.int .i64 0) := (blk_cell BK218.out 1).trans rfl; have hfz198_0 := blk_frozen BK218.out 0; have hfz198_1 := blk_frozen BK218.out 1; have hcz199_0 : w195.cell? ⟨gb211, 0, none⟩ = some (.string a0_0) := (blk_cell BK211.out 0).trans rfl; have hcz199_1 : w195.cell? ⟨gb211, 1, none⟩ = some (.int .i64 a0_1) := (blk_cell BK211.out 1).trans rfl; have hfz199_0 := blk_frozen BK211.out 0; have hfz199_1 := blk_frozen BK211.out 1; have hcz200_0 : w195.cell? ⟨gb212, 0, none⟩ = some (.int .i64 a1_0) := (blk_cell BK212.out 0).trans rfl; have hcz200_1 : w195.cell? ⟨gb212, 1, none⟩ = some (.int .i64 a1_1) := (blk_cell BK212.out 1).trans rfl; have hfz200_0 := blk_frozen BK212.out 0; have hfz200_1 := blk_frozen BK212.out 1) | ((with_reducible refine gate_callee (f := 11) rfl ?_); refine goesL_ (some 33) rfl rfl Tryd.func11 (by kernel_rfl) rfl #[.agg #[.string a0_0, .int .i64 a0_1], .agg #[.int .i64 a1_0, .int .i64 a1_1], .int .i64 1] rfl (by (try simp only [List.map_toArray, List.map_cons, List.map_nil]); first | done | rfl | (simp only [List.length_drop, List.length_take]; rfl)) ?_; (with_reducible refine (money_Scale.calls kj2 a0_0 a0_1 a1_0 a1_1 1 t219 t220 false _ A19.out).mono ?_); rintro e w201 ⟨rfl, hb⟩; refine ⟨_, rfl, ?_⟩; have n0_ := Aside0.mk (blk_below (g := gb211) (o := .cells #[.string a0_0, .int .i64 a0_1] 23 (0, 0)) (by (with_reducible repeat (first | refine blk_drewN ?_ _ | refine blk_drew ?_ | refine blk_alloc ?_ _)); refine blk_far ?_ NB211_218.out _; (with_reducible repeat (first | refine blk_drewN ?_ _ | refine blk_drew ?_ | refine blk_alloc ?_ _)); refine blk_far ?_ NB211_218.out _; (with_reducible repeat (first | refine blk_drewN ?_ _ | refine blk_drew ?_ | refine blk_alloc ?_ _)); exact BK211.out) hb); have n1_ := Aside0.mk (blk_below (g := gb212) (o := .cells #[.int .i64 a1_0, .int .i64 a1_1] 25 (0, 0)) (by (with_reducible repeat (first | refine blk_drewN ?_ _ | refine blk_drew ?_ | refine blk_alloc ?_ _)); refine blk_far ?_ NB212_218.out _; (with_reducible repeat (first | refine blk_drewN ?_ _ | refine blk_drew ?_ | refine blk_alloc ?_ _)); refine blk_far ?_ NB212_218.out _; (with_reducible repeat (first | refine blk_drewN ?_ _ | refine blk_drew ?_ | refine blk_alloc ?_ _)); exact BK212.out) hb); have n2_ := Aside0.mk (blk_below (g := gb218) (o := .cells #[.string t215, .int .i64 t216] 23 (0, 0)) (by (with_reducible repeat (first | refine blk_drewN ?_ _ | refine blk_drew ?_ | refine blk_alloc ?_ _)); refine blk_put (cs := #[.string t215, .int .i64 0]) ?_ 1 _ rfl; (with_reducible repeat (first | refine blk_drewN ?_ _ | refine blk_drew ?_ | refine blk_alloc ?_ _)); refine blk_put (cs := #[.string (⟨#[]⟩ : ByteArray), .int .i64 0]) ?_ 0 _ rfl; (with_reducible repeat (first | refine blk_drewN ?_ _ | refine blk_drew ?_ | refine blk_alloc ?_ _)); exact BK218.out) hb); have n3_ := Aside0.mk (below_step (by repeat (first | (with_reducible first | exact HB.out | apply below_alloc | apply pw_below_drewN | apply below_drew1 | refine below_set ?_ GE211.out | refine below_set ?_ GE212.out | refine below_set ?_ GE218.out) | exact HB.out)) hb); clear BK211; clear BK212; clear BK218; clear HB; have BK211 := n0_; have BK212 := n1_; have BK218 := n2_; have HB := n3_; clear n0_ n1_ n2_ n3_; (try clear hb); (try clear hb2); (try clear hk); (try clear hi)) | ((with_reducible refine gate_dst (N := 7) rfl ?_); refine box_event ?hg (N := 7) ?hd (cs := #[.string (⟨#[]⟩ : ByteArray), .int .i64 0]) (t := 23) ?hr ?_; (case hd => rfl); (case hg => rfl); (case hr => first | (go_simp; done) | (go_simp; rfl)); intro gb222 hg w202 hbox hb; have n0_ := Aside0.mk (blk_below (g := gb211) (o := .cells #[.string a0_0, .int .i64 a0_1] 23 (0, 0)) (by (with_reducible repeat (first | refine blk_drewN ?_ _ | refine blk_drew ?_ | refine blk_alloc ?_ _)); exact BK211.out) hb); have n1_ := Aside0.mk (blk_below (g := gb212) (o := .cells #[.int .i64 a1_0, .int .i64 a1_1] 25 (0, 0)) (by (with_reducible repeat (first | refine blk_drewN ?_ _ | refine blk_drew ?_ | refine blk_alloc ?_ _)); exact BK212.out) hb); have n2_ := Aside0.mk (blk_below (g := gb218) (o := .cells #[.string t215, .int .i64 t216] 23 (0, 0)) (by (with_reducible repeat (first | refine blk_drewN ?_ _ | refine blk_drew ?_ | refine blk_alloc ?_ _)); exact BK218.out) hb); have n3_ := Aside0.mk (below_step (by repeat (first | (with_reducible first | exact HB.out | apply below_alloc | apply pw_below_drewN | apply below_drew1 | refine below_set ?_ GE211.out | refine below_set ?_ GE212.out | refine below_set ?_ GE218.out) | exact HB.out)) hb); have n4_ := Aside0.mk (hbox); have n5_ := Aside0.mk ((by rw [hg]; exact (below_size (by repeat (first | (with_reducible first | exact HB.out | apply below_alloc | apply pw_below_drewN | apply below_drew1 | refine below_set ?_ GE211.out | refine below_set ?_ GE212.out | refine below_set ?_ GE218.out) | exact HB.out))) : w.heap.size ≤ gb222)); have n6_ := Aside0.mk ((by rw [hg]; exact (below_size (by repeat (first | (with_reducible first | exact HB.out | apply below_alloc | apply pw_below_drewN | apply below_drew1 | refine below_set ?_ GE211.out | refine below_set ?_ GE212.out | refine below_set ?_ GE218.out) | exact HB.out))) : w.heap.size ≤ gb222)); have n7_ := Aside0.mk ((by rw [hg]; exact Nat.ne_of_lt (blk_lt (g := gb211) (o := .cells #[.string a0_0, .int .i64 a0_1] 23 (0, 0)) (by (with_reducible repeat (first | refine blk_drewN ?_ _ | refine blk_drew ?_ | refine blk_alloc ?_ _)); exact BK211.out)) : gb211 ≠ gb222)); have n8_ := Aside0.mk ((by rw [hg]; exact Nat.ne_of_gt (blk_lt (g := gb211) (o := .cells #[.string a0_0, .int .i64 a0_1] 23 (0, 0)) (by (with_reducible repeat (first | refine blk_drewN ?_ _ | refine blk_drew ?_ | refine blk_alloc ?_ _)); exact BK211.out)) : gb222 ≠ gb211)); have n9_ := Aside0.mk ((by rw [hg]; exact Nat.ne_of_lt (blk_lt (g := gb212) (o := .cells #[.int .i64 a1_0, .int .i64 a1_1] 25 (0, 0)) (by (with_reducible repeat (first | refine blk_drewN ?_ _ | refine blk_drew ?_ | refine blk_alloc ?_ _)); exact BK212.out)) : gb212 ≠ gb222)); have n10_ := Aside0.mk ((by rw [hg]; exact Nat.ne_of_gt (blk_lt (g := gb212) (o := .cells #[.int .i64 a1_0, .int .i64 a1_1] 25 (0, 0)) (by (with_reducible repeat (first | refine blk_drewN ?_ _ | refine blk_drew ?_ | refine blk_alloc ?_ _)); exact BK212.out)) : gb222 ≠ gb212)); have n11_ := Aside0.mk ((by rw [hg]; exact Nat.ne_of_lt (blk_lt (g := gb218) (o := .cells #[.string t215, .int .i64 t216] 23 (0, 0)) (by (with_reducible repeat (first | refine blk_drewN ?_ _ | refine blk_drew ?_ | refine blk_alloc ?_ _)); exact BK218.out)) : gb218 ≠ gb222)); have n12_ := Aside0.mk ((by rw [hg]; exact Nat.ne_of_gt (blk_lt (g := gb218) (o := .cells #[.string t215, .int .i64 t216] 23 (0, 0)) (by (with_reducible repeat (first | refine blk_drewN ?_ _ | refine blk_drew ?_ | refine blk_alloc ?_ _)); exact BK218.out)) : gb222 ≠ gb218)); clear BK211; clear BK212; clear BK218; clear HB; have BK211 := n0_; have BK212 := n1_; have BK218 := n2_; have HB := n3_; have BK222 := n4_; have GW222 := n5_; have GE222 := n6_; have NB211_222 := n7_; have NB222_211 := n8_; have NB212_222 := n9_; have NB222_212 := n10_; have NB218_222 := n11_; have NB222_218 := n12_; clear n0_ n1_ n2_ n3_ n4_ n5_ n6_ n7_ n8_ n9_ n10_ n11_ n12_; clear hb hbox hg; have hnb203 := NB222_211.out; have hnc203 := NB211_222.out; have hnb204 := NB222_212.out; have hnc204 := NB212_222.out; have hnb205 := NB222_218.out; have hnc205 := NB218_222.out; have hcz206_0 : w202.cell? ⟨gb222, 0, none⟩ = some (.string (⟨#[]⟩ : ByteArray)) := (blk_cell BK222.out 0).trans rfl; have hcz206_1 : w202.cell? ⟨gb222, 1, none⟩ = some (.int .i64 0) := (blk_cell BK222.out 1).trans rfl; have hfz206_0 := blk_frozen BK222.out 0; have hfz206_1 := blk_frozen BK222.out 1; have hcz207_0 : w202.cell? ⟨gb211, 0, none⟩ = some (.string a0_0) := (blk_cell BK211.out 0).trans rfl; have hcz207_1 : w202.cell? ⟨gb211, 1, none⟩ = some (.int .i64 a0_1) := (blk_cell BK211.out 1).trans rfl; have hfz207_0 := blk_frozen BK211.out 0; have hfz207_1 := blk_frozen BK211.out 1; have hcz208_0 : w202.cell? ⟨gb212, 0, none⟩ = some (.int .i64 a1_0) := (blk_cell BK212.out 0).trans rfl; have hcz208_1 : w202.cell? ⟨gb212, 1, none⟩ = some (.int .i64 a1_1) := (blk_cell BK212.out 1).trans rfl; have hfz208_0 := blk_frozen BK212.out 0; have hfz208_1 := blk_frozen BK212.out 1) | ((with_reducible refine gate_callee (f := 11) rfl ?_); refine goesL_ (some 39) rfl rfl Tryd.func11 (by kernel_rfl) rfl #[.agg #[.string a0_0, .int .i64 a0_1], .agg #[.int .i64 a1_0, .int .i64 a1_1], .int .i64 2] rfl (by (try simp only [List.map_toArray, List.map_cons, List.map_nil]); first | done | rfl | (simp only [List.length_drop, List.length_take]; rfl)) ?_; (with_reducible refine (money_Scale.calls kj2 a0_0 a0_1 a1_0 a1_1 2 t223 t224 t225 _ A20.out).mono ?_); rintro e w209 ⟨rfl, hb⟩; refine ⟨_, rfl, ?_⟩; have n0_ := Aside0.mk (blk_below (g := gb211) (o := .cells #[.string a0_0, .int .i64 a0_1] 23 (0, 0)) (by (with_reducible repeat (first | refine blk_drewN ?_ _ | refine blk_drew ?_ | refine blk_alloc ?_ _)); refine blk_far ?_ NB211_222.out _; (with_reducible repeat (first | refine blk_drewN ?_ _ | refine blk_drew ?_ | refine blk_alloc ?_ _)); refine blk_far ?_ NB211_222.out _; (with_reducible repeat (first | refine blk_drewN ?_ _ | refine blk_drew ?_ | refine blk_alloc ?_ _)); exact BK211.out) hb); have n1_ := Aside0.mk (blk_below (g := gb212) (o := .cells #[.int .i64 a1_0, .int .i64 a1_1] 25 (0, 0)) (by (with_reducible repeat (first | refine blk_drewN ?_ _ | refine blk_drew ?_ | refine blk_alloc ?_ _)); refine blk_far ?_ NB212_222.out _; (with_reducible repeat (first | refine blk_drewN ?_ _ | refine blk_drew ?_ | refine blk_alloc ?_ _)); refine blk_far ?_ NB212_222.out _; (with_reducible repeat (first | refine blk_drewN ?_ _ | refine blk_drew ?_ | refine blk_alloc ?_ _)); exact BK212.out) hb); have n2_ := Aside0.mk (blk_below (g := gb218) (o := .cells #[.string t215, .int .i64 t216] 23 (0, 0)) (by (with_reducible repeat (first | refine blk_drewN ?_ _ | refine blk_drew ?_ | refine blk_alloc ?_ _)); refine blk_far ?_ NB218_222.out _; (with_reducible repeat (first | refine blk_drewN ?_ _ | refine blk_drew ?_ | refine blk_alloc ?_ _)); refine blk_far ?_ NB218_222.out _; (with_reducible repeat (first | refine blk_drewN ?_ _ | refine blk_drew ?_ | refine blk_alloc ?_ _)); exact BK218.out) hb); have n3_ := Aside0.mk (blk_below (g := gb222) (o := .cells #[.string t219, .int .i64 t220] 23 (0, 0)) (by (with_reducible repeat (first | refine blk_drewN ?_ _ | refine blk_drew ?_ | refine blk_alloc ?_ _)); refine blk_put (cs := #[.string t219, .int .i64 0]) ?_ 1 _ rfl; (with_reducible repeat (first | refine blk_drewN ?_ _ | refine blk_drew ?_ | refine blk_alloc ?_ _)); refine blk_put (cs := #[.string (⟨#[]⟩ : ByteArray), .int .i64 0]) ?_ 0 _ rfl; (with_reducible repeat (first | refine blk_drewN ?_ _ | refine blk_drew ?_ | refine blk_alloc ?_ _)); exact BK222.out) hb); have n4_ := Aside0.mk (below_step (by repeat (first | (with_reducible first | exact HB.out | apply below_alloc | apply pw_below_drewN | apply below_drew1 | refine below_set ?_ GE211.out | refine below_set ?_ GE212.out | refine below_set ?_ GE218.out | refine below_set ?_ GE222.out) | exact HB.out)) hb); clear BK211; clear BK212; clear BK218; clear BK222; clear HB; have BK211 := n0_; have BK212 := n1_; have BK218 := n2_; have BK222 := n3_; have HB := n4_; clear n0_ n1_ n2_ n3_ n4_; (try clear hb); (try clear hb2); (try clear hk); (try clear hi)) | ((with_reducible refine gate_dst (N := 9) rfl ?_); refine box_event ?hg (N := 9) ?hd (cs := #[.string (⟨#[]⟩ : ByteArray), .int .i64 0]) (t := 23) ?hr ?_; (case hd => rfl); (case hg => rfl); (case hr => first | (go_simp; done) | (go_simp; rfl)); intro gb226 hg w210 hbox hb; have n0_ := Aside0.mk (blk_below (g := gb211) (o := .cells #[.string a0_0, .int .i64 a0_1] 23 (0, 0)) (by (with_reducible repeat (first | refine blk_drewN ?_ _ | refine blk_drew ?_ | refine blk_alloc ?_ _)); exact BK211.out) hb); have n1_ := Aside0.mk (blk_below (g := gb212) (o := .cells #[.int .i64 a1_0, .int .i64 a1_1] 25 (0, 0)) (by (with_reducible repeat (first | refine blk_drewN ?_ _ | refine blk_drew ?_ | refine blk_alloc ?_ _)); exact BK212.out) hb); have n2_ := Aside0.mk (blk_below (g := gb218) (o := .cells #[.string t215, .int .i64 t216] 23 (0, 0)) (by (with_reducible repeat (first | refine blk_drewN ?_ _ | refine blk_drew ?_ | refine blk_alloc ?_ _)); exact BK218.out) hb); have n3_ := Aside0.mk (blk_below (g := gb222) (o := .cells #[.string t219, .int .i64 t220] 23 (0, 0)) (by (with_reducible repeat (first | refine blk_drewN ?_ _ | refine blk_drew ?_ | refine blk_alloc ?_ _)); exact BK222.out) hb); have n4_ := Aside0.mk (below_step (by repeat (first | (with_reducible first | exact HB.out | apply below_alloc | apply pw_below_drewN | apply below_drew1 | refine below_set ?_ GE211.out | refine below_set ?_ GE212.out | refine below_set ?_ GE218.out | refine below_set ?_ GE222.out) | exact HB.out)) hb); have n5_ := Aside0.mk (hbox); have n6_ := Aside0.mk ((by rw [hg]; exact (below_size (by repeat (first | (with_reducible first | exact HB.out | apply below_alloc | apply pw_below_drewN | apply below_drew1 | refine below_set ?_ GE211.out | refine below_set ?_ GE212.out | refine below_set ?_ GE218.out | refine below_set ?_ GE222.out) | exact HB.out))) : w.heap.size ≤ gb226)); have n7_ := Aside0.mk ((by rw [hg]; exact (below_size (by repeat (first | (with_reducible first | exact HB.out | apply below_alloc | apply pw_below_drewN | apply below_drew1 | refine below_set ?_ GE211.out | refine below_set ?_ GE212.out | refine below_set ?_ GE218.out | refine below_set ?_ GE222.out) | exact HB.out))) : w.heap.size ≤ gb226)); have n8_ := Aside0.mk ((by rw [hg]; exact Nat.ne_of_lt (blk_lt (g := gb211) (o := .cells #[.string a0_0, .int .i64 a0_1] 23 (0, 0)) (by (with_reducible repeat (first | refine blk_drewN ?_ _ | refine blk_drew ?_ | refine blk_alloc ?_ _)); exact BK211.out)) : gb211 ≠ gb226)); have n9_ := Aside0.mk ((by rw [hg]; exact Nat.ne_of_gt (blk_lt (g := gb211) (o := .cells #[.string a0_0, .int .i64 a0_1] 23 (0, 0)) (by (with_reducible repeat (first | refine blk_drewN ?_ _ | refine blk_drew ?_ | refine blk_alloc ?_ _)); exact BK211.out)) : gb226 ≠ gb211)); have n10_ := Aside0.mk ((by rw [hg]; exact Nat.ne_of_lt (blk_lt (g := gb212) (o := .cells #[.int .i64 a1_0, .int .i64 a1_1] 25 (0, 0)) (by (with_reducible repeat (first | refine blk_drewN ?_ _ | refine blk_drew ?_ | refine blk_alloc ?_ _)); exact BK212.out)) : gb212 ≠ gb226)); have n11_ := Aside0.mk ((by rw [hg]; exact Nat.ne_of_gt (blk_lt (g := gb212) (o := .cells #[.int .i64 a1_0, .int .i64 a1_1] 25 (0, 0)) (by (with_reducible repeat (first | refine blk_drewN ?_ _ | refine blk_drew ?_ | refine blk_alloc ?_ _)); exact BK212.out)) : gb226 ≠ gb212)); have n12_ := Aside0.mk ((by rw [hg]; exact Nat.ne_of_lt (blk_lt (g := gb218) (o := .cells #[.string t215, .int .i64 t216] 23 (0, 0)) (by (with_reducible repeat (first | refine blk_drewN ?_ _ | refine blk_drew ?_ | refine blk_alloc ?_ _)); exact BK218.out)) : gb218 ≠ gb226)); have n13_ := Aside0.mk ((by rw [hg]; exact Nat.ne_of_gt (blk_lt (g := gb218) (o := .cells #[.string t215, .int .i64 t216] 23 (0, 0)) (by (with_reducible repeat (first | refine blk_drewN ?_ _ | refine blk_drew ?_ | refine blk_alloc ?_ _)); exact BK218.out)) : gb226 ≠ gb218)); have n14_ := Aside0.mk ((by rw [hg]; exact Nat.ne_of_lt (blk_lt (g := gb222) (o := .cells #[.string t219, .int .i64 t220] 23 (0, 0)) (by (with_reducible repeat (first | refine blk_drewN ?_ _ | refine blk_drew ?_ | refine blk_alloc ?_ _)); exact BK222.out)) : gb222 ≠ gb226)); have n15_ := Aside0.mk ((by rw [hg]; exact Nat.ne_of_gt (blk_lt (g := gb222) (o := .cells #[.string t219, .int .i64 t220] 23 (0, 0)) (by (with_reducible repeat (first | refine blk_drewN ?_ _ | refine blk_drew ?_ | refine blk_alloc ?_ _)); exact BK222.out)) : gb226 ≠ gb222)); clear BK211; clear BK212; clear BK218; clear BK222; clear HB; have BK211 := n0_; have BK212 := n1_; have BK218 := n2_; have BK222 := n3_; have HB := n4_; have BK226 := n5_; have GW226 := n6_; have GE226 := n7_; have NB211_226 := n8_; have NB226_211 := n9_; have NB212_226 := n10_; have NB226_212 := n11_; have NB218_226 := n12_; have NB226_218 := n13_; have NB222_226 := n14_; have NB226_222 := n15_; clear n0_ n1_ n2_ n3_ n4_ n5_ n6_ n7_ n8_ n9_ n10_ n11_ n12_ n13_ n14_ n15_; clear hb hbox hg; have hnb211 := NB226_211.out; have hnc211 := NB211_226.out; have hnb212 := NB226_212.out; have hnc212 := NB212_226.out; have hnb213 := NB226_218.out; have hnc213 := NB218_226.out; have hnb214 := NB226_222.out; have hnc214 := NB222_226.out; have hcz215_0 : w210.cell? ⟨gb226, 0, none⟩ = some (.string (⟨#[]⟩ : ByteArray)) := (blk_cell BK226.out 0).trans rfl; have hcz215_1 : w210.cell? ⟨gb226, 1, none⟩ = some (.int .i64 0) := (blk_cell BK226.out 1).trans rfl; have hfz215_0 := blk_frozen BK226.out 0; have hfz215_1 := blk_frozen BK226.out 1))
     (try simp only [Act.put, sA, s0, s1])
     go_cut [4] (fun v4 wc => ∃ (kq : Nat) (x4_189 : Bool), v4 = .bool x4_189 ∧ Aside0 (supercargolaw01_MoneyRounds.j1 kq x4_189 = some r) ∧ Aside0 (kq ≤ kj2) ∧ Aside0 (wc.heap[gb211]? = some (.cells #[.string a0_0, .int .i64 a0_1] 23 (0, 0))) ∧ Aside0 (wc.heap[gb212]? = some (.cells #[.int .i64 a1_0, .int .i64 a1_1] 25 (0, 0))) ∧ Aside0 (wc.heap[gb218]? = some (.cells #[.string t215, .int .i64 t216] 23 (0, 0))) ∧ Aside0 (wc.heap[gb222]? = some (.cells #[.string t219, .int .i64 t220] 23 (0, 0))) ∧ Aside0 (wc.heap[gb226]? = some (.cells #[.string t223, .int .i64 t224] 23 (0, 0))) ∧ Aside0 (Below w.heap.size w wc))
     case first =>
      have H := HC190.out
      clear HC190
      by_cases c216 : t217 = true
      ·subst c216
       have H1 : (if t216 = 1099511627776 then (if t225 = true then (if (t223.toList == t215.toList && (t224 == t216)) = true then ((supercargolaw01_awake.f kj2).bind fun t227 => (supercargolaw01_MoneyRounds.j1 kj2 t227)) else (supercargolaw01_MoneyRounds.j1 kj2 false)) else ((supercargolaw01_awake.f kj2).bind fun t228 => (supercargolaw01_MoneyRounds.j1 kj2 t228))) else (supercargolaw01_MoneyRounds.j1 kj2 false)) = some r := by rw [if_pos rfl] at H; exact H
       clear H
       have H := H1
       clear H1
       by_cases c217 : t216 = 1099511627776
       ·rw [if_pos c217] at H
        have c217b0 : (t216 == 1099511627776) = true := beq_iff_eq.mpr c217
        have c217b1 : (t216 != 1099511627776) = false := bne_eq_false_iff_eq.mpr c217
        clear c217
        (first | rw [c217b0] | (simp only [i64_w, i32_w]; rw [c217b0]) | skip)
        by_cases c218 : t225 = true
        ·subst c218
         have H1 : (if (t223.toList == t215.toList && (t224 == t216)) = true then ((supercargolaw01_awake.f kj2).bind fun t227 => (supercargolaw01_MoneyRounds.j1 kj2 t227)) else (supercargolaw01_MoneyRounds.j1 kj2 false)) = some r := by rw [if_pos rfl] at H; exact H
         clear H
         have H := H1
         clear H1
         by_cases c219 : (t223.toList == t215.toList && (t224 == t216)) = true
         ·rw [if_pos c219] at H
          have c219b0 : (t223.toList == t215.toList && (t224 == t216)) = true := c219
          (try (have c219b1 : decide (t223.toList = t215.toList && (t224 == t216)) = true := by simpa using c219))
          (try (have c219b2 : (t223.toList == t215.toList && (t224 == t216)) = true := by simpa using c219))
          clear c219
          replace H := Option.bind_eq_some_iff.mp H
          obtain ⟨t227, A2200, H⟩ := H
          replace H : (supercargolaw01_MoneyRounds.j1 kj2 t227) = some r := H
          have A220 := Aside0.mk A2200
          clear A2200
          have H' := Aside0.mk H
          clear H
          have hnb221 := NB218_211.out
          have hnc221 := NB211_218.out
          have hnb222 := NB218_212.out
          have hnc222 := NB212_218.out
          have hnb223 := NB218_222.out
          have hnc223 := NB222_218.out
          have hnb224 := NB218_226.out
          have hnc224 := NB226_218.out
          have hcz225_0 : w210.cell? ⟨gb218, 0, none⟩ = some (.string t215) := (blk_cell BK218.out 0).trans rfl
          have hcz225_1 : w210.cell? ⟨gb218, 1, none⟩ = some (.int .i64 t216) := (blk_cell BK218.out 1).trans rfl
          have hfz225_0 := blk_frozen BK218.out 0
          have hfz225_1 := blk_frozen BK218.out 1
          have hnb226 := NB226_211.out
          have hnc226 := NB211_226.out
          have hnb227 := NB226_212.out
          have hnc227 := NB212_226.out
          have hnb228 := NB226_222.out
          have hnc228 := NB222_226.out
          have hcz229_0 : w210.cell? ⟨gb226, 0, none⟩ = some (.string (⟨#[]⟩ : ByteArray)) := (blk_cell BK226.out 0).trans rfl
          have hcz229_1 : w210.cell? ⟨gb226, 1, none⟩ = some (.int .i64 0) := (blk_cell BK226.out 1).trans rfl
          have hfz229_0 := blk_frozen BK226.out 0
          have hfz229_1 := blk_frozen BK226.out 1
          go_wp2_with (first | (go_at_call 13; (with_reducible refine (supercargolaw01_awake.calls kj2  t227 _ ?side1 A220.out).mono ?_); (case side1 => repeat (first | exact HT.out | exact Tabs_below HT.out (by repeat (first | (with_reducible first | exact HB.out | apply below_alloc | apply pw_below_drewN | apply below_drew1 | refine below_set ?_ GE211.out | refine below_set ?_ GE212.out | refine below_set ?_ GE218.out | refine below_set ?_ GE222.out | refine below_set ?_ GE226.out) | exact HB.out)) | (with_reducible refine Tabs_drewN ?_ _) | (with_reducible refine Tabs_drew ?_))); rintro e w230 ⟨rfl, hb⟩; have n0_ := Aside0.mk (blk_below (g := gb211) (o := .cells #[.string a0_0, .int .i64 a0_1] 23 (0, 0)) (by (with_reducible repeat (first | refine blk_drewN ?_ _ | refine blk_drew ?_ | refine blk_alloc ?_ _)); refine blk_far ?_ NB211_226.out _; (with_reducible repeat (first | refine blk_drewN ?_ _ | refine blk_drew ?_ | refine blk_alloc ?_ _)); refine blk_far ?_ NB211_226.out _; (with_reducible repeat (first | refine blk_drewN ?_ _ | refine blk_drew ?_ | refine blk_alloc ?_ _)); exact BK211.out) hb); have n1_ := Aside0.mk (blk_below (g := gb212) (o := .cells #[.int .i64 a1_0, .int .i64 a1_1] 25 (0, 0)) (by (with_reducible repeat (first | refine blk_drewN ?_ _ | refine blk_drew ?_ | refine blk_alloc ?_ _)); refine blk_far ?_ NB212_226.out _; (with_reducible repeat (first | refine blk_drewN ?_ _ | refine blk_drew ?_ | refine blk_alloc ?_ _)); refine blk_far ?_ NB212_226.out _; (with_reducible repeat (first | refine blk_drewN ?_ _ | refine blk_drew ?_ | refine blk_alloc ?_ _)); exact BK212.out) hb); have n2_ := Aside0.mk (blk_below (g := gb218) (o := .cells #[.string t215, .int .i64 t216] 23 (0, 0)) (by (with_reducible repeat (first | refine blk_drewN ?_ _ | refine blk_drew ?_ | refine blk_alloc ?_ _)); refine blk_far ?_ NB218_226.out _; (with_reducible repeat (first | refine blk_drewN ?_ _ | refine blk_drew ?_ | refine blk_alloc ?_ _)); refine blk_far ?_ NB218_226.out _; (with_reducible repeat (first | refine blk_drewN ?_ _ | refine blk_drew ?_ | refine blk_alloc ?_ _)); exact BK218.out) hb); have n3_ := Aside0.mk (blk_below (g := gb222) (o := .cells #[.string t219, .int .i64 t220] 23 (0, 0)) (by (with_reducible repeat (first | refine blk_drewN ?_ _ | refine blk_drew ?_ | refine blk_alloc ?_ _)); refine blk_far ?_ NB222_226.out _; (with_reducible repeat (first | refine blk_drewN ?_ _ | refine blk_drew ?_ | refine blk_alloc ?_ _)); refine blk_far ?_ NB222_226.out _; (with_reducible repeat (first | refine blk_drewN ?_ _ | refine blk_drew ?_ | refine blk_alloc ?_ _)); exact BK222.out) hb); have n4_ := Aside0.mk (blk_below (g := gb226) (o := .cells #[.string t223, .int .i64 t224] 23 (0, 0)) (by (with_reducible repeat (first | refine blk_drewN ?_ _ | refine blk_drew ?_ | refine blk_alloc ?_ _)); refine blk_put (cs := #[.string t223, .int .i64 0]) ?_ 1 _ rfl; (with_reducible repeat (first | refine blk_drewN ?_ _ | refine blk_drew ?_ | refine blk_alloc ?_ _)); refine blk_put (cs := #[.string (⟨#[]⟩ : ByteArray), .int .i64 0]) ?_ 0 _ rfl; (with_reducible repeat (first | refine blk_drewN ?_ _ | refine blk_drew ?_ | refine blk_alloc ?_ _)); exact BK226.out) hb); have n5_ := Aside0.mk (below_step (by repeat (first | (with_reducible first | exact HB.out | apply below_alloc | apply pw_below_drewN | apply below_drew1 | refine below_set ?_ GE211.out | refine below_set ?_ GE212.out | refine below_set ?_ GE218.out | refine below_set ?_ GE222.out | refine below_set ?_ GE226.out) | exact HB.out)) hb); clear BK211; clear BK212; clear BK218; clear BK222; clear BK226; clear HB; have BK211 := n0_; have BK212 := n1_; have BK218 := n2_; have BK222 := n3_; have BK226 := n4_; have HB := n5_; clear n0_ n1_ n2_ n3_ n4_ n5_; (try clear hb); (try clear hb2); (try clear hk); (try clear hi)))
          go_meet
          case rel => exact ⟨_, (t227), (by first | rfl | (simp; done) | (simp [*]; done)), H', ⟨by have := HJ2.out; first | omega | exact Nat.le_refl _⟩, ⟨by (with_reducible repeat (first | refine blk_drewN ?_ _ | refine blk_drew ?_ | refine blk_alloc ?_ _)); exact BK211.out⟩, ⟨by (with_reducible repeat (first | refine blk_drewN ?_ _ | refine blk_drew ?_ | refine blk_alloc ?_ _)); exact BK212.out⟩, ⟨by (with_reducible repeat (first | refine blk_drewN ?_ _ | refine blk_drew ?_ | refine blk_alloc ?_ _)); exact BK218.out⟩, ⟨by (with_reducible repeat (first | refine blk_drewN ?_ _ | refine blk_drew ?_ | refine blk_alloc ?_ _)); exact BK222.out⟩, ⟨by (with_reducible repeat (first | refine blk_drewN ?_ _ | refine blk_drew ?_ | refine blk_alloc ?_ _)); exact BK226.out⟩, ⟨by repeat (first | (with_reducible first | exact HB.out | apply below_alloc | apply pw_below_drewN | apply below_drew1 | refine below_set ?_ GE211.out | refine below_set ?_ GE212.out | refine below_set ?_ GE218.out | refine below_set ?_ GE222.out | refine below_set ?_ GE226.out) | exact HB.out)⟩⟩
         ·rw [if_neg c219] at H
          have c219b0 : (t223.toList == t215.toList && (t224 == t216)) = false := by simpa using c219
          (try (have c219b1 : decide (t223.toList = t215.toList && (t224 == t216)) = false := by simpa using c219))
          (try (have c219b2 : (t223.toList == t215.toList && (t224 == t216)) = false := by simpa using c219))
          (try (have c219b3 : ¬ (t223.toList = t215.toList && (t224 == t216)) := by simpa using c219))
          clear c219
          have H' := Aside0.mk H
          clear H
          have hnb231 := NB218_211.out
          have hnc231 := NB211_218.out
          have hnb232 := NB218_212.out
          have hnc232 := NB212_218.out
          have hnb233 := NB218_222.out
          have hnc233 := NB222_218.out
          have hnb234 := NB218_226.out
          have hnc234 := NB226_218.out
          have hcz235_0 : w210.cell? ⟨gb218, 0, none⟩ = some (.string t215) := (blk_cell BK218.out 0).trans rfl
          have hcz235_1 : w210.cell? ⟨gb218, 1, none⟩ = some (.int .i64 t216) := (blk_cell BK218.out 1).trans rfl
          have hfz235_0 := blk_frozen BK218.out 0
          have hfz235_1 := blk_frozen BK218.out 1
          have hnb236 := NB226_211.out
          have hnc236 := NB211_226.out
          have hnb237 := NB226_212.out
          have hnc237 := NB212_226.out
          have hnb238 := NB226_222.out
          have hnc238 := NB222_226.out
          have hcz239_0 : w210.cell? ⟨gb226, 0, none⟩ = some (.string (⟨#[]⟩ : ByteArray)) := (blk_cell BK226.out 0).trans rfl
          have hcz239_1 : w210.cell? ⟨gb226, 1, none⟩ = some (.int .i64 0) := (blk_cell BK226.out 1).trans rfl
          have hfz239_0 := blk_frozen BK226.out 0
          have hfz239_1 := blk_frozen BK226.out 1
          go_wp2
          go_meet
          case rel => exact ⟨_, (false), (by first | rfl | (simp; done) | (simp [*]; done)), H', ⟨by have := HJ2.out; first | omega | exact Nat.le_refl _⟩, ⟨by (with_reducible repeat (first | refine blk_drewN ?_ _ | refine blk_drew ?_ | refine blk_alloc ?_ _)); refine blk_far ?_ NB211_226.out _; (with_reducible repeat (first | refine blk_drewN ?_ _ | refine blk_drew ?_ | refine blk_alloc ?_ _)); refine blk_far ?_ NB211_226.out _; (with_reducible repeat (first | refine blk_drewN ?_ _ | refine blk_drew ?_ | refine blk_alloc ?_ _)); exact BK211.out⟩, ⟨by (with_reducible repeat (first | refine blk_drewN ?_ _ | refine blk_drew ?_ | refine blk_alloc ?_ _)); refine blk_far ?_ NB212_226.out _; (with_reducible repeat (first | refine blk_drewN ?_ _ | refine blk_drew ?_ | refine blk_alloc ?_ _)); refine blk_far ?_ NB212_226.out _; (with_reducible repeat (first | refine blk_drewN ?_ _ | refine blk_drew ?_ | refine blk_alloc ?_ _)); exact BK212.out⟩, ⟨by (with_reducible repeat (first | refine blk_drewN ?_ _ | refine blk_drew ?_ | refine blk_alloc ?_ _)); refine blk_far ?_ NB218_226.out _; (with_reducible repeat (first | refine blk_drewN ?_ _ | refine blk_drew ?_ | refine blk_alloc ?_ _)); refine blk_far ?_ NB218_226.out _; (with_reducible repeat (first | refine blk_drewN ?_ _ | refine blk_drew ?_ | refine blk_alloc ?_ _)); exact BK218.out⟩, ⟨by (with_reducible repeat (first | refine blk_drewN ?_ _ | refine blk_drew ?_ | refine blk_alloc ?_ _)); refine blk_far ?_ NB222_226.out _; (with_reducible repeat (first | refine blk_drewN ?_ _ | refine blk_drew ?_ | refine blk_alloc ?_ _)); refine blk_far ?_ NB222_226.out _; (with_reducible repeat (first | refine blk_drewN ?_ _ | refine blk_drew ?_ | refine blk_alloc ?_ _)); exact BK222.out⟩, ⟨by (with_reducible repeat (first | refine blk_drewN ?_ _ | refine blk_drew ?_ | refine blk_alloc ?_ _)); refine blk_put (cs := #[.string t223, .int .i64 0]) ?_ 1 _ rfl; (with_reducible repeat (first | refine blk_drewN ?_ _ | refine blk_drew ?_ | refine blk_alloc ?_ _)); refine blk_put (cs := #[.string (⟨#[]⟩ : ByteArray), .int .i64 0]) ?_ 0 _ rfl; (with_reducible repeat (first | refine blk_drewN ?_ _ | refine blk_drew ?_ | refine blk_alloc ?_ _)); exact BK226.out⟩, ⟨by repeat (first | (with_reducible first | exact HB.out | apply below_alloc | apply pw_below_drewN | apply below_drew1 | refine below_set ?_ GE211.out | refine below_set ?_ GE212.out | refine below_set ?_ GE218.out | refine below_set ?_ GE222.out | refine below_set ?_ GE226.out) | exact HB.out)⟩⟩
        ·replace c218 := Bool.eq_false_iff.mpr c218
         subst c218
         have H1 : ((supercargolaw01_awake.f kj2).bind fun t228 => (supercargolaw01_MoneyRounds.j1 kj2 t228)) = some r := by rw [if_neg (show ¬ (false = true) by decide)] at H; exact H
         clear H
         have H := H1
         clear H1
         replace H := Option.bind_eq_some_iff.mp H
         obtain ⟨t228, A2400, H⟩ := H
         replace H : (supercargolaw01_MoneyRounds.j1 kj2 t228) = some r := H
         have A240 := Aside0.mk A2400
         clear A2400
         have H' := Aside0.mk H
         clear H
         have hnb241 := NB218_211.out
         have hnc241 := NB211_218.out
         have hnb242 := NB218_212.out
         have hnc242 := NB212_218.out
         have hnb243 := NB218_222.out
         have hnc243 := NB222_218.out
         have hnb244 := NB218_226.out
         have hnc244 := NB226_218.out
         have hcz245_0 : w210.cell? ⟨gb218, 0, none⟩ = some (.string t215) := (blk_cell BK218.out 0).trans rfl
         have hcz245_1 : w210.cell? ⟨gb218, 1, none⟩ = some (.int .i64 t216) := (blk_cell BK218.out 1).trans rfl
         have hfz245_0 := blk_frozen BK218.out 0
         have hfz245_1 := blk_frozen BK218.out 1
         go_wp2_with (first | (go_at_call 13; (with_reducible refine (supercargolaw01_awake.calls kj2  t228 _ ?side1 A240.out).mono ?_); (case side1 => repeat (first | exact HT.out | exact Tabs_below HT.out (by repeat (first | (with_reducible first | exact HB.out | apply below_alloc | apply pw_below_drewN | apply below_drew1 | refine below_set ?_ GE211.out | refine below_set ?_ GE212.out | refine below_set ?_ GE218.out | refine below_set ?_ GE222.out | refine below_set ?_ GE226.out) | exact HB.out)) | (with_reducible refine Tabs_drewN ?_ _) | (with_reducible refine Tabs_drew ?_))); rintro e w246 ⟨rfl, hb⟩; have n0_ := Aside0.mk (blk_below (g := gb211) (o := .cells #[.string a0_0, .int .i64 a0_1] 23 (0, 0)) (by (with_reducible repeat (first | refine blk_drewN ?_ _ | refine blk_drew ?_ | refine blk_alloc ?_ _)); refine blk_far ?_ NB211_226.out _; (with_reducible repeat (first | refine blk_drewN ?_ _ | refine blk_drew ?_ | refine blk_alloc ?_ _)); refine blk_far ?_ NB211_226.out _; (with_reducible repeat (first | refine blk_drewN ?_ _ | refine blk_drew ?_ | refine blk_alloc ?_ _)); exact BK211.out) hb); have n1_ := Aside0.mk (blk_below (g := gb212) (o := .cells #[.int .i64 a1_0, .int .i64 a1_1] 25 (0, 0)) (by (with_reducible repeat (first | refine blk_drewN ?_ _ | refine blk_drew ?_ | refine blk_alloc ?_ _)); refine blk_far ?_ NB212_226.out _; (with_reducible repeat (first | refine blk_drewN ?_ _ | refine blk_drew ?_ | refine blk_alloc ?_ _)); refine blk_far ?_ NB212_226.out _; (with_reducible repeat (first | refine blk_drewN ?_ _ | refine blk_drew ?_ | refine blk_alloc ?_ _)); exact BK212.out) hb); have n2_ := Aside0.mk (blk_below (g := gb218) (o := .cells #[.string t215, .int .i64 t216] 23 (0, 0)) (by (with_reducible repeat (first | refine blk_drewN ?_ _ | refine blk_drew ?_ | refine blk_alloc ?_ _)); refine blk_far ?_ NB218_226.out _; (with_reducible repeat (first | refine blk_drewN ?_ _ | refine blk_drew ?_ | refine blk_alloc ?_ _)); refine blk_far ?_ NB218_226.out _; (with_reducible repeat (first | refine blk_drewN ?_ _ | refine blk_drew ?_ | refine blk_alloc ?_ _)); exact BK218.out) hb); have n3_ := Aside0.mk (blk_below (g := gb222) (o := .cells #[.string t219, .int .i64 t220] 23 (0, 0)) (by (with_reducible repeat (first | refine blk_drewN ?_ _ | refine blk_drew ?_ | refine blk_alloc ?_ _)); refine blk_far ?_ NB222_226.out _; (with_reducible repeat (first | refine blk_drewN ?_ _ | refine blk_drew ?_ | refine blk_alloc ?_ _)); refine blk_far ?_ NB222_226.out _; (with_reducible repeat (first | refine blk_drewN ?_ _ | refine blk_drew ?_ | refine blk_alloc ?_ _)); exact BK222.out) hb); have n4_ := Aside0.mk (blk_below (g := gb226) (o := .cells #[.string t223, .int .i64 t224] 23 (0, 0)) (by (with_reducible repeat (first | refine blk_drewN ?_ _ | refine blk_drew ?_ | refine blk_alloc ?_ _)); refine blk_put (cs := #[.string t223, .int .i64 0]) ?_ 1 _ rfl; (with_reducible repeat (first | refine blk_drewN ?_ _ | refine blk_drew ?_ | refine blk_alloc ?_ _)); refine blk_put (cs := #[.string (⟨#[]⟩ : ByteArray), .int .i64 0]) ?_ 0 _ rfl; (with_reducible repeat (first | refine blk_drewN ?_ _ | refine blk_drew ?_ | refine blk_alloc ?_ _)); exact BK226.out) hb); have n5_ := Aside0.mk (below_step (by repeat (first | (with_reducible first | exact HB.out | apply below_alloc | apply pw_below_drewN | apply below_drew1 | refine below_set ?_ GE211.out | refine below_set ?_ GE212.out | refine below_set ?_ GE218.out | refine below_set ?_ GE222.out | refine below_set ?_ GE226.out) | exact HB.out)) hb); clear BK211; clear BK212; clear BK218; clear BK222; clear BK226; clear HB; have BK211 := n0_; have BK212 := n1_; have BK218 := n2_; have BK222 := n3_; have BK226 := n4_; have HB := n5_; clear n0_ n1_ n2_ n3_ n4_ n5_; (try clear hb); (try clear hb2); (try clear hk); (try clear hi)))
         go_meet
         case rel => exact ⟨_, (t228), (by first | rfl | (simp; done) | (simp [*]; done)), H', ⟨by have := HJ2.out; first | omega | exact Nat.le_refl _⟩, ⟨by (with_reducible repeat (first | refine blk_drewN ?_ _ | refine blk_drew ?_ | refine blk_alloc ?_ _)); exact BK211.out⟩, ⟨by (with_reducible repeat (first | refine blk_drewN ?_ _ | refine blk_drew ?_ | refine blk_alloc ?_ _)); exact BK212.out⟩, ⟨by (with_reducible repeat (first | refine blk_drewN ?_ _ | refine blk_drew ?_ | refine blk_alloc ?_ _)); exact BK218.out⟩, ⟨by (with_reducible repeat (first | refine blk_drewN ?_ _ | refine blk_drew ?_ | refine blk_alloc ?_ _)); exact BK222.out⟩, ⟨by (with_reducible repeat (first | refine blk_drewN ?_ _ | refine blk_drew ?_ | refine blk_alloc ?_ _)); exact BK226.out⟩, ⟨by repeat (first | (with_reducible first | exact HB.out | apply below_alloc | apply pw_below_drewN | apply below_drew1 | refine below_set ?_ GE211.out | refine below_set ?_ GE212.out | refine below_set ?_ GE218.out | refine below_set ?_ GE222.out | refine below_set ?_ GE226.out) | exact HB.out)⟩⟩
       ·rw [if_neg c217] at H
        have c217b0 : (t216 == 1099511627776) = false := beq_eq_false_iff_ne.mpr c217
        have c217b1 : (t216 != 1099511627776) = true := bne_iff_ne.mpr c217
        (first | rw [c217b0] | (simp only [i64_w, i32_w]; rw [c217b0]) | skip)
        have H' := Aside0.mk H
        clear H
        have hnb247 := NB218_211.out
        have hnc247 := NB211_218.out
        have hnb248 := NB218_212.out
        have hnc248 := NB212_218.out
        have hnb249 := NB218_222.out
        have hnc249 := NB222_218.out
        have hnb250 := NB218_226.out
        have hnc250 := NB226_218.out
        have hcz251_0 : w210.cell? ⟨gb218, 0, none⟩ = some (.string t215) := (blk_cell BK218.out 0).trans rfl
        have hcz251_1 : w210.cell? ⟨gb218, 1, none⟩ = some (.int .i64 t216) := (blk_cell BK218.out 1).trans rfl
        have hfz251_0 := blk_frozen BK218.out 0
        have hfz251_1 := blk_frozen BK218.out 1
        go_wp2
        go_meet
        case rel => exact ⟨_, (false), (by first | rfl | (simp; done) | (simp [*]; done)), H', ⟨by have := HJ2.out; first | omega | exact Nat.le_refl _⟩, ⟨by (with_reducible repeat (first | refine blk_drewN ?_ _ | refine blk_drew ?_ | refine blk_alloc ?_ _)); refine blk_far ?_ NB211_226.out _; (with_reducible repeat (first | refine blk_drewN ?_ _ | refine blk_drew ?_ | refine blk_alloc ?_ _)); refine blk_far ?_ NB211_226.out _; (with_reducible repeat (first | refine blk_drewN ?_ _ | refine blk_drew ?_ | refine blk_alloc ?_ _)); exact BK211.out⟩, ⟨by (with_reducible repeat (first | refine blk_drewN ?_ _ | refine blk_drew ?_ | refine blk_alloc ?_ _)); refine blk_far ?_ NB212_226.out _; (with_reducible repeat (first | refine blk_drewN ?_ _ | refine blk_drew ?_ | refine blk_alloc ?_ _)); refine blk_far ?_ NB212_226.out _; (with_reducible repeat (first | refine blk_drewN ?_ _ | refine blk_drew ?_ | refine blk_alloc ?_ _)); exact BK212.out⟩, ⟨by (with_reducible repeat (first | refine blk_drewN ?_ _ | refine blk_drew ?_ | refine blk_alloc ?_ _)); refine blk_far ?_ NB218_226.out _; (with_reducible repeat (first | refine blk_drewN ?_ _ | refine blk_drew ?_ | refine blk_alloc ?_ _)); refine blk_far ?_ NB218_226.out _; (with_reducible repeat (first | refine blk_drewN ?_ _ | refine blk_drew ?_ | refine blk_alloc ?_ _)); exact BK218.out⟩, ⟨by (with_reducible repeat (first | refine blk_drewN ?_ _ | refine blk_drew ?_ | refine blk_alloc ?_ _)); refine blk_far ?_ NB222_226.out _; (with_reducible repeat (first | refine blk_drewN ?_ _ | refine blk_drew ?_ | refine blk_alloc ?_ _)); refine blk_far ?_ NB222_226.out _; (with_reducible repeat (first | refine blk_drewN ?_ _ | refine blk_drew ?_ | refine blk_alloc ?_ _)); exact BK222.out⟩, ⟨by (with_reducible repeat (first | refine blk_drewN ?_ _ | refine blk_drew ?_ | refine blk_alloc ?_ _)); refine blk_put (cs := #[.string t223, .int .i64 0]) ?_ 1 _ rfl; (with_reducible repeat (first | refine blk_drewN ?_ _ | refine blk_drew ?_ | refine blk_alloc ?_ _)); refine blk_put (cs := #[.string (⟨#[]⟩ : ByteArray), .int .i64 0]) ?_ 0 _ rfl; (with_reducible repeat (first | refine blk_drewN ?_ _ | refine blk_drew ?_ | refine blk_alloc ?_ _)); exact BK226.out⟩, ⟨by repeat (first | (with_reducible first | exact HB.out | apply below_alloc | apply pw_below_drewN | apply below_drew1 | refine below_set ?_ GE211.out | refine below_set ?_ GE212.out | refine below_set ?_ GE218.out | refine below_set ?_ GE222.out | refine below_set ?_ GE226.out) | exact HB.out)⟩⟩
      ·replace c216 := Bool.eq_false_iff.mpr c216
       subst c216
       have H1 : (if t225 = true then (if (t223.toList == t215.toList && (t224 == t216)) = true then ((supercargolaw01_awake.f kj2).bind fun t229 => (supercargolaw01_MoneyRounds.j1 kj2 t229)) else (supercargolaw01_MoneyRounds.j1 kj2 false)) else ((supercargolaw01_awake.f kj2).bind fun t230 => (supercargolaw01_MoneyRounds.j1 kj2 t230))) = some r := by rw [if_neg (show ¬ (false = true) by decide)] at H; exact H
       clear H
       have H := H1
       clear H1
       by_cases c252 : t225 = true
       ·subst c252
        have H1 : (if (t223.toList == t215.toList && (t224 == t216)) = true then ((supercargolaw01_awake.f kj2).bind fun t229 => (supercargolaw01_MoneyRounds.j1 kj2 t229)) else (supercargolaw01_MoneyRounds.j1 kj2 false)) = some r := by rw [if_pos rfl] at H; exact H
        clear H
        have H := H1
        clear H1
        by_cases c253 : (t223.toList == t215.toList && (t224 == t216)) = true
        ·rw [if_pos c253] at H
         have c253b0 : (t223.toList == t215.toList && (t224 == t216)) = true := c253
         (try (have c253b1 : decide (t223.toList = t215.toList && (t224 == t216)) = true := by simpa using c253))
         (try (have c253b2 : (t223.toList == t215.toList && (t224 == t216)) = true := by simpa using c253))
         clear c253
         replace H := Option.bind_eq_some_iff.mp H
         obtain ⟨t229, A2540, H⟩ := H
         replace H : (supercargolaw01_MoneyRounds.j1 kj2 t229) = some r := H
         have A254 := Aside0.mk A2540
         clear A2540
         have H' := Aside0.mk H
         clear H
         have hnb255 := NB226_211.out
         have hnc255 := NB211_226.out
         have hnb256 := NB226_212.out
         have hnc256 := NB212_226.out
         have hnb257 := NB226_218.out
         have hnc257 := NB218_226.out
         have hnb258 := NB226_222.out
         have hnc258 := NB222_226.out
         have hcz259_0 : w210.cell? ⟨gb226, 0, none⟩ = some (.string (⟨#[]⟩ : ByteArray)) := (blk_cell BK226.out 0).trans rfl
         have hcz259_1 : w210.cell? ⟨gb226, 1, none⟩ = some (.int .i64 0) := (blk_cell BK226.out 1).trans rfl
         have hfz259_0 := blk_frozen BK226.out 0
         have hfz259_1 := blk_frozen BK226.out 1
         have hnb260 := NB218_211.out
         have hnc260 := NB211_218.out
         have hnb261 := NB218_212.out
         have hnc261 := NB212_218.out
         have hnb262 := NB218_222.out
         have hnc262 := NB222_218.out
         have hcz263_0 : w210.cell? ⟨gb218, 0, none⟩ = some (.string t215) := (blk_cell BK218.out 0).trans rfl
         have hcz263_1 : w210.cell? ⟨gb218, 1, none⟩ = some (.int .i64 t216) := (blk_cell BK218.out 1).trans rfl
         have hfz263_0 := blk_frozen BK218.out 0
         have hfz263_1 := blk_frozen BK218.out 1
         go_wp2_with (first | (go_at_call 13; (with_reducible refine (supercargolaw01_awake.calls kj2  t229 _ ?side1 A254.out).mono ?_); (case side1 => repeat (first | exact HT.out | exact Tabs_below HT.out (by repeat (first | (with_reducible first | exact HB.out | apply below_alloc | apply pw_below_drewN | apply below_drew1 | refine below_set ?_ GE211.out | refine below_set ?_ GE212.out | refine below_set ?_ GE218.out | refine below_set ?_ GE222.out | refine below_set ?_ GE226.out) | exact HB.out)) | (with_reducible refine Tabs_drewN ?_ _) | (with_reducible refine Tabs_drew ?_))); rintro e w264 ⟨rfl, hb⟩; have n0_ := Aside0.mk (blk_below (g := gb211) (o := .cells #[.string a0_0, .int .i64 a0_1] 23 (0, 0)) (by (with_reducible repeat (first | refine blk_drewN ?_ _ | refine blk_drew ?_ | refine blk_alloc ?_ _)); refine blk_far ?_ NB211_226.out _; (with_reducible repeat (first | refine blk_drewN ?_ _ | refine blk_drew ?_ | refine blk_alloc ?_ _)); refine blk_far ?_ NB211_226.out _; (with_reducible repeat (first | refine blk_drewN ?_ _ | refine blk_drew ?_ | refine blk_alloc ?_ _)); exact BK211.out) hb); have n1_ := Aside0.mk (blk_below (g := gb212) (o := .cells #[.int .i64 a1_0, .int .i64 a1_1] 25 (0, 0)) (by (with_reducible repeat (first | refine blk_drewN ?_ _ | refine blk_drew ?_ | refine blk_alloc ?_ _)); refine blk_far ?_ NB212_226.out _; (with_reducible repeat (first | refine blk_drewN ?_ _ | refine blk_drew ?_ | refine blk_alloc ?_ _)); refine blk_far ?_ NB212_226.out _; (with_reducible repeat (first | refine blk_drewN ?_ _ | refine blk_drew ?_ | refine blk_alloc ?_ _)); exact BK212.out) hb); have n2_ := Aside0.mk (blk_below (g := gb218) (o := .cells #[.string t215, .int .i64 t216] 23 (0, 0)) (by (with_reducible repeat (first | refine blk_drewN ?_ _ | refine blk_drew ?_ | refine blk_alloc ?_ _)); refine blk_far ?_ NB218_226.out _; (with_reducible repeat (first | refine blk_drewN ?_ _ | refine blk_drew ?_ | refine blk_alloc ?_ _)); refine blk_far ?_ NB218_226.out _; (with_reducible repeat (first | refine blk_drewN ?_ _ | refine blk_drew ?_ | refine blk_alloc ?_ _)); exact BK218.out) hb); have n3_ := Aside0.mk (blk_below (g := gb222) (o := .cells #[.string t219, .int .i64 t220] 23 (0, 0)) (by (with_reducible repeat (first | refine blk_drewN ?_ _ | refine blk_drew ?_ | refine blk_alloc ?_ _)); refine blk_far ?_ NB222_226.out _; (with_reducible repeat (first | refine blk_drewN ?_ _ | refine blk_drew ?_ | refine blk_alloc ?_ _)); refine blk_far ?_ NB222_226.out _; (with_reducible repeat (first | refine blk_drewN ?_ _ | refine blk_drew ?_ | refine blk_alloc ?_ _)); exact BK222.out) hb); have n4_ := Aside0.mk (blk_below (g := gb226) (o := .cells #[.string t223, .int .i64 t224] 23 (0, 0)) (by (with_reducible repeat (first | refine blk_drewN ?_ _ | refine blk_drew ?_ | refine blk_alloc ?_ _)); refine blk_put (cs := #[.string t223, .int .i64 0]) ?_ 1 _ rfl; (with_reducible repeat (first | refine blk_drewN ?_ _ | refine blk_drew ?_ | refine blk_alloc ?_ _)); refine blk_put (cs := #[.string (⟨#[]⟩ : ByteArray), .int .i64 0]) ?_ 0 _ rfl; (with_reducible repeat (first | refine blk_drewN ?_ _ | refine blk_drew ?_ | refine blk_alloc ?_ _)); exact BK226.out) hb); have n5_ := Aside0.mk (below_step (by repeat (first | (with_reducible first | exact HB.out | apply below_alloc | apply pw_below_drewN | apply below_drew1 | refine below_set ?_ GE211.out | refine below_set ?_ GE212.out | refine below_set ?_ GE218.out | refine below_set ?_ GE222.out | refine below_set ?_ GE226.out) | exact HB.out)) hb); clear BK211; clear BK212; clear BK218; clear BK222; clear BK226; clear HB; have BK211 := n0_; have BK212 := n1_; have BK218 := n2_; have BK222 := n3_; have BK226 := n4_; have HB := n5_; clear n0_ n1_ n2_ n3_ n4_ n5_; (try clear hb); (try clear hb2); (try clear hk); (try clear hi)))
         go_meet
         case rel => exact ⟨_, (t229), (by first | rfl | (simp; done) | (simp [*]; done)), H', ⟨by have := HJ2.out; first | omega | exact Nat.le_refl _⟩, ⟨by (with_reducible repeat (first | refine blk_drewN ?_ _ | refine blk_drew ?_ | refine blk_alloc ?_ _)); exact BK211.out⟩, ⟨by (with_reducible repeat (first | refine blk_drewN ?_ _ | refine blk_drew ?_ | refine blk_alloc ?_ _)); exact BK212.out⟩, ⟨by (with_reducible repeat (first | refine blk_drewN ?_ _ | refine blk_drew ?_ | refine blk_alloc ?_ _)); exact BK218.out⟩, ⟨by (with_reducible repeat (first | refine blk_drewN ?_ _ | refine blk_drew ?_ | refine blk_alloc ?_ _)); exact BK222.out⟩, ⟨by (with_reducible repeat (first | refine blk_drewN ?_ _ | refine blk_drew ?_ | refine blk_alloc ?_ _)); exact BK226.out⟩, ⟨by repeat (first | (with_reducible first | exact HB.out | apply below_alloc | apply pw_below_drewN | apply below_drew1 | refine below_set ?_ GE211.out | refine below_set ?_ GE212.out | refine below_set ?_ GE218.out | refine below_set ?_ GE222.out | refine below_set ?_ GE226.out) | exact HB.out)⟩⟩
        ·rw [if_neg c253] at H
         have c253b0 : (t223.toList == t215.toList && (t224 == t216)) = false := by simpa using c253
         (try (have c253b1 : decide (t223.toList = t215.toList && (t224 == t216)) = false := by simpa using c253))
         (try (have c253b2 : (t223.toList == t215.toList && (t224 == t216)) = false := by simpa using c253))
         (try (have c253b3 : ¬ (t223.toList = t215.toList && (t224 == t216)) := by simpa using c253))
         clear c253
         have H' := Aside0.mk H
         clear H
         have hnb265 := NB226_211.out
         have hnc265 := NB211_226.out
         have hnb266 := NB226_212.out
         have hnc266 := NB212_226.out
         have hnb267 := NB226_218.out
         have hnc267 := NB218_226.out
         have hnb268 := NB226_222.out
         have hnc268 := NB222_226.out
         have hcz269_0 : w210.cell? ⟨gb226, 0, none⟩ = some (.string (⟨#[]⟩ : ByteArray)) := (blk_cell BK226.out 0).trans rfl
         have hcz269_1 : w210.cell? ⟨gb226, 1, none⟩ = some (.int .i64 0) := (blk_cell BK226.out 1).trans rfl
         have hfz269_0 := blk_frozen BK226.out 0
         have hfz269_1 := blk_frozen BK226.out 1
         have hnb270 := NB218_211.out
         have hnc270 := NB211_218.out
         have hnb271 := NB218_212.out
         have hnc271 := NB212_218.out
         have hnb272 := NB218_222.out
         have hnc272 := NB222_218.out
         have hcz273_0 : w210.cell? ⟨gb218, 0, none⟩ = some (.string t215) := (blk_cell BK218.out 0).trans rfl
         have hcz273_1 : w210.cell? ⟨gb218, 1, none⟩ = some (.int .i64 t216) := (blk_cell BK218.out 1).trans rfl
         have hfz273_0 := blk_frozen BK218.out 0
         have hfz273_1 := blk_frozen BK218.out 1
         go_wp2
         go_meet
         case rel => exact ⟨_, (false), (by first | rfl | (simp; done) | (simp [*]; done)), H', ⟨by have := HJ2.out; first | omega | exact Nat.le_refl _⟩, ⟨by (with_reducible repeat (first | refine blk_drewN ?_ _ | refine blk_drew ?_ | refine blk_alloc ?_ _)); refine blk_far ?_ NB211_226.out _; (with_reducible repeat (first | refine blk_drewN ?_ _ | refine blk_drew ?_ | refine blk_alloc ?_ _)); refine blk_far ?_ NB211_226.out _; (with_reducible repeat (first | refine blk_drewN ?_ _ | refine blk_drew ?_ | refine blk_alloc ?_ _)); exact BK211.out⟩, ⟨by (with_reducible repeat (first | refine blk_drewN ?_ _ | refine blk_drew ?_ | refine blk_alloc ?_ _)); refine blk_far ?_ NB212_226.out _; (with_reducible repeat (first | refine blk_drewN ?_ _ | refine blk_drew ?_ | refine blk_alloc ?_ _)); refine blk_far ?_ NB212_226.out _; (with_reducible repeat (first | refine blk_drewN ?_ _ | refine blk_drew ?_ | refine blk_alloc ?_ _)); exact BK212.out⟩, ⟨by (with_reducible repeat (first | refine blk_drewN ?_ _ | refine blk_drew ?_ | refine blk_alloc ?_ _)); refine blk_far ?_ NB218_226.out _; (with_reducible repeat (first | refine blk_drewN ?_ _ | refine blk_drew ?_ | refine blk_alloc ?_ _)); refine blk_far ?_ NB218_226.out _; (with_reducible repeat (first | refine blk_drewN ?_ _ | refine blk_drew ?_ | refine blk_alloc ?_ _)); exact BK218.out⟩, ⟨by (with_reducible repeat (first | refine blk_drewN ?_ _ | refine blk_drew ?_ | refine blk_alloc ?_ _)); refine blk_far ?_ NB222_226.out _; (with_reducible repeat (first | refine blk_drewN ?_ _ | refine blk_drew ?_ | refine blk_alloc ?_ _)); refine blk_far ?_ NB222_226.out _; (with_reducible repeat (first | refine blk_drewN ?_ _ | refine blk_drew ?_ | refine blk_alloc ?_ _)); exact BK222.out⟩, ⟨by (with_reducible repeat (first | refine blk_drewN ?_ _ | refine blk_drew ?_ | refine blk_alloc ?_ _)); refine blk_put (cs := #[.string t223, .int .i64 0]) ?_ 1 _ rfl; (with_reducible repeat (first | refine blk_drewN ?_ _ | refine blk_drew ?_ | refine blk_alloc ?_ _)); refine blk_put (cs := #[.string (⟨#[]⟩ : ByteArray), .int .i64 0]) ?_ 0 _ rfl; (with_reducible repeat (first | refine blk_drewN ?_ _ | refine blk_drew ?_ | refine blk_alloc ?_ _)); exact BK226.out⟩, ⟨by repeat (first | (with_reducible first | exact HB.out | apply below_alloc | apply pw_below_drewN | apply below_drew1 | refine below_set ?_ GE211.out | refine below_set ?_ GE212.out | refine below_set ?_ GE218.out | refine below_set ?_ GE222.out | refine below_set ?_ GE226.out) | exact HB.out)⟩⟩
       ·replace c252 := Bool.eq_false_iff.mpr c252
        subst c252
        have H1 : ((supercargolaw01_awake.f kj2).bind fun t230 => (supercargolaw01_MoneyRounds.j1 kj2 t230)) = some r := by rw [if_neg (show ¬ (false = true) by decide)] at H; exact H
        clear H
        have H := H1
        clear H1
        replace H := Option.bind_eq_some_iff.mp H
        obtain ⟨t230, A2740, H⟩ := H
        replace H : (supercargolaw01_MoneyRounds.j1 kj2 t230) = some r := H
        have A274 := Aside0.mk A2740
        clear A2740
        have H' := Aside0.mk H
        clear H
        go_wp2_with (first | (go_at_call 13; (with_reducible refine (supercargolaw01_awake.calls kj2  t230 _ ?side1 A274.out).mono ?_); (case side1 => repeat (first | exact HT.out | exact Tabs_below HT.out (by repeat (first | (with_reducible first | exact HB.out | apply below_alloc | apply pw_below_drewN | apply below_drew1 | refine below_set ?_ GE211.out | refine below_set ?_ GE212.out | refine below_set ?_ GE218.out | refine below_set ?_ GE222.out | refine below_set ?_ GE226.out) | exact HB.out)) | (with_reducible refine Tabs_drewN ?_ _) | (with_reducible refine Tabs_drew ?_))); rintro e w275 ⟨rfl, hb⟩; have n0_ := Aside0.mk (blk_below (g := gb211) (o := .cells #[.string a0_0, .int .i64 a0_1] 23 (0, 0)) (by (with_reducible repeat (first | refine blk_drewN ?_ _ | refine blk_drew ?_ | refine blk_alloc ?_ _)); refine blk_far ?_ NB211_226.out _; (with_reducible repeat (first | refine blk_drewN ?_ _ | refine blk_drew ?_ | refine blk_alloc ?_ _)); refine blk_far ?_ NB211_226.out _; (with_reducible repeat (first | refine blk_drewN ?_ _ | refine blk_drew ?_ | refine blk_alloc ?_ _)); exact BK211.out) hb); have n1_ := Aside0.mk (blk_below (g := gb212) (o := .cells #[.int .i64 a1_0, .int .i64 a1_1] 25 (0, 0)) (by (with_reducible repeat (first | refine blk_drewN ?_ _ | refine blk_drew ?_ | refine blk_alloc ?_ _)); refine blk_far ?_ NB212_226.out _; (with_reducible repeat (first | refine blk_drewN ?_ _ | refine blk_drew ?_ | refine blk_alloc ?_ _)); refine blk_far ?_ NB212_226.out _; (with_reducible repeat (first | refine blk_drewN ?_ _ | refine blk_drew ?_ | refine blk_alloc ?_ _)); exact BK212.out) hb); have n2_ := Aside0.mk (blk_below (g := gb218) (o := .cells #[.string t215, .int .i64 t216] 23 (0, 0)) (by (with_reducible repeat (first | refine blk_drewN ?_ _ | refine blk_drew ?_ | refine blk_alloc ?_ _)); refine blk_far ?_ NB218_226.out _; (with_reducible repeat (first | refine blk_drewN ?_ _ | refine blk_drew ?_ | refine blk_alloc ?_ _)); refine blk_far ?_ NB218_226.out _; (with_reducible repeat (first | refine blk_drewN ?_ _ | refine blk_drew ?_ | refine blk_alloc ?_ _)); exact BK218.out) hb); have n3_ := Aside0.mk (blk_below (g := gb222) (o := .cells #[.string t219, .int .i64 t220] 23 (0, 0)) (by (with_reducible repeat (first | refine blk_drewN ?_ _ | refine blk_drew ?_ | refine blk_alloc ?_ _)); refine blk_far ?_ NB222_226.out _; (with_reducible repeat (first | refine blk_drewN ?_ _ | refine blk_drew ?_ | refine blk_alloc ?_ _)); refine blk_far ?_ NB222_226.out _; (with_reducible repeat (first | refine blk_drewN ?_ _ | refine blk_drew ?_ | refine blk_alloc ?_ _)); exact BK222.out) hb); have n4_ := Aside0.mk (blk_below (g := gb226) (o := .cells #[.string t223, .int .i64 t224] 23 (0, 0)) (by (with_reducible repeat (first | refine blk_drewN ?_ _ | refine blk_drew ?_ | refine blk_alloc ?_ _)); refine blk_put (cs := #[.string t223, .int .i64 0]) ?_ 1 _ rfl; (with_reducible repeat (first | refine blk_drewN ?_ _ | refine blk_drew ?_ | refine blk_alloc ?_ _)); refine blk_put (cs := #[.string (⟨#[]⟩ : ByteArray), .int .i64 0]) ?_ 0 _ rfl; (with_reducible repeat (first | refine blk_drewN ?_ _ | refine blk_drew ?_ | refine blk_alloc ?_ _)); exact BK226.out) hb); have n5_ := Aside0.mk (below_step (by repeat (first | (with_reducible first | exact HB.out | apply below_alloc | apply pw_below_drewN | apply below_drew1 | refine below_set ?_ GE211.out | refine below_set ?_ GE212.out | refine below_set ?_ GE218.out | refine below_set ?_ GE222.out | refine below_set ?_ GE226.out) | exact HB.out)) hb); clear BK211; clear BK212; clear BK218; clear BK222; clear BK226; clear HB; have BK211 := n0_; have BK212 := n1_; have BK218 := n2_; have BK222 := n3_; have BK226 := n4_; have HB := n5_; clear n0_ n1_ n2_ n3_ n4_ n5_; (try clear hb); (try clear hb2); (try clear hk); (try clear hi)))
        go_meet
        case rel => exact ⟨_, (t230), (by first | rfl | (simp; done) | (simp [*]; done)), H', ⟨by have := HJ2.out; first | omega | exact Nat.le_refl _⟩, ⟨by (with_reducible repeat (first | refine blk_drewN ?_ _ | refine blk_drew ?_ | refine blk_alloc ?_ _)); exact BK211.out⟩, ⟨by (with_reducible repeat (first | refine blk_drewN ?_ _ | refine blk_drew ?_ | refine blk_alloc ?_ _)); exact BK212.out⟩, ⟨by (with_reducible repeat (first | refine blk_drewN ?_ _ | refine blk_drew ?_ | refine blk_alloc ?_ _)); exact BK218.out⟩, ⟨by (with_reducible repeat (first | refine blk_drewN ?_ _ | refine blk_drew ?_ | refine blk_alloc ?_ _)); exact BK222.out⟩, ⟨by (with_reducible repeat (first | refine blk_drewN ?_ _ | refine blk_drew ?_ | refine blk_alloc ?_ _)); exact BK226.out⟩, ⟨by repeat (first | (with_reducible first | exact HB.out | apply below_alloc | apply pw_below_drewN | apply below_drew1 | refine below_set ?_ GE211.out | refine below_set ?_ GE212.out | refine below_set ?_ GE218.out | refine below_set ?_ GE222.out | refine below_set ?_ GE226.out) | exact HB.out)⟩⟩
     case rest =>
      clear HC190
      try clear c1
      try clear c2
      try clear p2
      try clear c3
      try clear c4
      try clear c5
      try clear c6
      try clear p6
      try clear c7
      try clear c8
      try clear c9
      try clear c10
      try clear c11
      try clear c12
      try clear c13
      try clear c14
      try clear c15
      try clear c16
      try clear c17
      try clear c18
      try clear c19
      try clear c20
      try clear c21
      try clear c22
      try clear c23
      try clear c24
      try clear c25
      try clear c26
      try clear c27
      try clear c28
      try clear c29
      try clear c35
      try clear c36
      try clear c37
      try clear c43
      try clear c44
      try clear c45
      try clear c46
      try clear c48
      try clear c49
      try clear c50
      try clear c50b0
      try clear c51
      try clear c52
      try clear c53
      try clear c54
      try clear c56
      try clear c57
      try clear c58
      try clear c60
      try clear c60b0
      try clear c61
      try clear c62
      try clear c63
      try clear c64
      try clear p64
      try clear c66
      try clear c67
      try clear c68
      try clear c70
      try clear c70b0
      try clear c71
      try clear c72
      try clear c73
      try clear c74
      try clear c76
      try clear c77
      try clear c78
      try clear c80
      try clear c81
      try clear c83
      try clear c84
      try clear c85
      try clear c86
      try clear c88
      try clear c89
      try clear c90
      try clear c92
      try clear c93
      try clear c95
      try clear c99
      try clear c100
      try clear c101
      try clear c102
      try clear c104
      try clear c105
      try clear c106
      try clear c110
      try clear c111
      try clear c112
      try clear c113
      try clear c114
      try clear c120
      try clear c121
      try clear c122
      try clear c123
      try clear c124
      try clear c125
      try clear c127
      try clear c128
      try clear c129
      try clear c129b0
      try clear c129b1
      try clear c130
      try clear c130b0
      try clear c130b1
      try clear c132
      try clear c133
      try clear c134
      try clear c135
      try clear c136
      try clear c137
      try clear c139
      try clear c140
      try clear c141
      try clear c142
      try clear c143
      try clear c145
      try clear c146
      try clear c147
      try clear c148
      try clear c150
      try clear c151
      try clear c152
      try clear c155
      try clear c156
      try clear c157
      try clear c158
      try clear c159
      try clear c160
      try clear c162
      try clear c163
      try clear c164
      try clear c165
      try clear c166
      try clear c168
      try clear c169
      try clear c170
      try clear c171
      try clear c173
      try clear c174
      try clear c175
      try clear c177
      try clear c178
      try clear c179
      try clear c180
      try clear c181
      try clear c182
      try clear c184
      try clear c185
      try clear c186
      try clear c187
      try clear c188
      try clear c191
      try clear c196
      try clear c197
      try clear c203
      try clear c204
      try clear c205
      try clear c211
      try clear c212
      try clear c213
      try clear c214
      try clear c216
      try clear c217
      try clear c217b0
      try clear c217b1
      try clear c218
      try clear c219
      try clear c219b0
      try clear c219b1
      try clear c219b2
      try clear c221
      try clear c222
      try clear c223
      try clear c224
      try clear c226
      try clear c227
      try clear c228
      try clear c231
      try clear c232
      try clear c233
      try clear c234
      try clear c236
      try clear c237
      try clear c238
      try clear c241
      try clear c242
      try clear c243
      try clear c244
      try clear c247
      try clear c248
      try clear c249
      try clear c250
      try clear c252
      try clear c253
      try clear c253b0
      try clear c253b1
      try clear c253b2
      try clear c255
      try clear c256
      try clear c257
      try clear c258
      try clear c260
      try clear c261
      try clear c262
      try clear c265
      try clear c266
      try clear c267
      try clear c268
      try clear c270
      try clear c271
      try clear c272
      try clear hcz103_0
      try clear hcz103_1
      try clear hcz107_0
      try clear hcz107_1
      try clear hcz115_0
      try clear hcz115_1
      try clear hcz116_0
      try clear hcz116_1
      try clear hcz117_0
      try clear hcz117_1
      try clear hcz11_0
      try clear hcz11_1
      try clear hcz126_0
      try clear hcz126_1
      try clear hcz138_0
      try clear hcz138_1
      try clear hcz13_0
      try clear hcz13_1
      try clear hcz144_0
      try clear hcz144_1
      try clear hcz149_0
      try clear hcz149_1
      try clear hcz153_0
      try clear hcz153_1
      try clear hcz161_0
      try clear hcz161_1
      try clear hcz167_0
      try clear hcz167_1
      try clear hcz172_0
      try clear hcz172_1
      try clear hcz176_0
      try clear hcz176_1
      try clear hcz183_0
      try clear hcz183_1
      try clear hcz189_0
      try clear hcz189_1
      try clear hcz192_0
      try clear hcz192_1
      try clear hcz193_0
      try clear hcz193_1
      try clear hcz198_0
      try clear hcz198_1
      try clear hcz199_0
      try clear hcz199_1
      try clear hcz200_0
      try clear hcz200_1
      try clear hcz206_0
      try clear hcz206_1
      try clear hcz207_0
      try clear hcz207_1
      try clear hcz208_0
      try clear hcz208_1
      try clear hcz215_0
      try clear hcz215_1
      try clear hcz225_0
      try clear hcz225_1
      try clear hcz229_0
      try clear hcz229_1
      try clear hcz235_0
      try clear hcz235_1
      try clear hcz239_0
      try clear hcz239_1
      try clear hcz245_0
      try clear hcz245_1
      try clear hcz24_0
      try clear hcz24_1
      try clear hcz251_0
      try clear hcz251_1
      try clear hcz259_0
      try clear hcz259_1
      try clear hcz25_0
      try clear hcz25_1
      try clear hcz263_0
      try clear hcz263_1
      try clear hcz269_0
      try clear hcz269_1
      try clear hcz273_0
      try clear hcz273_1
      try clear hcz30_0
      try clear hcz30_1
      try clear hcz31_0
      try clear hcz31_1
      try clear hcz32_0
      try clear hcz32_1
      try clear hcz38_0
      try clear hcz38_1
      try clear hcz39_0
      try clear hcz39_1
      try clear hcz40_0
      try clear hcz40_1
      try clear hcz47_0
      try clear hcz47_1
      try clear hcz55_0
      try clear hcz55_1
      try clear hcz59_0
      try clear hcz59_1
      try clear hcz65_0
      try clear hcz65_1
      try clear hcz69_0
      try clear hcz69_1
      try clear hcz75_0
      try clear hcz75_1
      try clear hcz79_0
      try clear hcz79_1
      try clear hcz82_0
      try clear hcz82_1
      try clear hcz87_0
      try clear hcz87_1
      try clear hcz91_0
      try clear hcz91_1
      try clear hcz94_0
      try clear hcz94_1
      try clear hcz9_0
      try clear hcz9_1
      try clear hfz103_0
      try clear hfz103_1
      try clear hfz107_0
      try clear hfz107_1
      try clear hfz115_0
      try clear hfz115_1
      try clear hfz116_0
      try clear hfz116_1
      try clear hfz117_0
      try clear hfz117_1
      try clear hfz11_0
      try clear hfz11_1
      try clear hfz126_0
      try clear hfz126_1
      try clear hfz138_0
      try clear hfz138_1
      try clear hfz13_0
      try clear hfz13_1
      try clear hfz144_0
      try clear hfz144_1
      try clear hfz149_0
      try clear hfz149_1
      try clear hfz153_0
      try clear hfz153_1
      try clear hfz161_0
      try clear hfz161_1
      try clear hfz167_0
      try clear hfz167_1
      try clear hfz172_0
      try clear hfz172_1
      try clear hfz176_0
      try clear hfz176_1
      try clear hfz183_0
      try clear hfz183_1
      try clear hfz189_0
      try clear hfz189_1
      try clear hfz192_0
      try clear hfz192_1
      try clear hfz193_0
      try clear hfz193_1
      try clear hfz198_0
      try clear hfz198_1
      try clear hfz199_0
      try clear hfz199_1
      try clear hfz200_0
      try clear hfz200_1
      try clear hfz206_0
      try clear hfz206_1
      try clear hfz207_0
      try clear hfz207_1
      try clear hfz208_0
      try clear hfz208_1
      try clear hfz215_0
      try clear hfz215_1
      try clear hfz225_0
      try clear hfz225_1
      try clear hfz229_0
      try clear hfz229_1
      try clear hfz235_0
      try clear hfz235_1
      try clear hfz239_0
      try clear hfz239_1
      try clear hfz245_0
      try clear hfz245_1
      try clear hfz24_0
      try clear hfz24_1
      try clear hfz251_0
      try clear hfz251_1
      try clear hfz259_0
      try clear hfz259_1
      try clear hfz25_0
      try clear hfz25_1
      try clear hfz263_0
      try clear hfz263_1
      try clear hfz269_0
      try clear hfz269_1
      try clear hfz273_0
      try clear hfz273_1
      try clear hfz30_0
      try clear hfz30_1
      try clear hfz31_0
      try clear hfz31_1
      try clear hfz32_0
      try clear hfz32_1
      try clear hfz38_0
      try clear hfz38_1
      try clear hfz39_0
      try clear hfz39_1
      try clear hfz40_0
      try clear hfz40_1
      try clear hfz47_0
      try clear hfz47_1
      try clear hfz55_0
      try clear hfz55_1
      try clear hfz59_0
      try clear hfz59_1
      try clear hfz65_0
      try clear hfz65_1
      try clear hfz69_0
      try clear hfz69_1
      try clear hfz75_0
      try clear hfz75_1
      try clear hfz79_0
      try clear hfz79_1
      try clear hfz82_0
      try clear hfz82_1
      try clear hfz87_0
      try clear hfz87_1
      try clear hfz91_0
      try clear hfz91_1
      try clear hfz94_0
      try clear hfz94_1
      try clear hfz9_0
      try clear hfz9_1
      try clear p2
      try clear p6
      try clear p64
      obtain ⟨kq, x4_189, rfl, HA, HJ189, BK211, BK212, BK218, BK222, BK226, HB⟩ := hcut
      cases kq with
      | zero => exact absurd HA.out (by simp [supercargolaw01_MoneyRounds.j1])
      | succ kj189 =>
       have H := HA.out
       clear HA
       simp only [supercargolaw01_MoneyRounds.j1] at H
       obtain rfl := Option.some.inj H
       go_wp2
       go_ret
       exact ⟨by first | rfl | (simp [errW_none, errW_some] <;> rfl) | (simp [*, errW_none, errW_some] <;> rfl), by repeat (first | (with_reducible first | exact HB.out | apply below_alloc | apply pw_below_drewN | apply below_drew1 | refine below_set ?_ GE211.out | refine below_set ?_ GE212.out | refine below_set ?_ GE218.out | refine below_set ?_ GE222.out | refine below_set ?_ GE226.out) | exact HB.out)⟩

end Go.Proofs.YtggjphcikcflkaaDoor.P
