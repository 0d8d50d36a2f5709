-- Written by the session's own program xprint.py, which runs the kit's print over functions given by hand.
import Derived.Test.YtjmbglgchmhahaaPx0
import Derived.Test.YtjmbglgchmhahaaPx7
import Derived.Test.YtjmbglgchmhahaaPx8
namespace Go.Proofs.Ytjmbglgchmhahaa.P
open Go.RowKit Go.Proofs.YtjmbglgchmhahaaW.PrintWords Go.Proofs.YtjmbglgchmhahaaW.PrintLast Go.Proofs.YtjmbglgchmhahaaW.PrintMore
attribute [local go_sem] max2_int min2_int max_two min_two max_three min_three max_four min_four   -- for this text's walks alone
set_option linter.unusedVariables false
set_option linter.unusedSimpArgs false

/-! ### supercargoref22_Wrong: function 20 -/
def supercargoref22_Wrong.j0 : Nat → Bool → ByteArray → ByteArray → Int → Int → ByteArray → ByteArray → Int → Int → Option (Int)
  | 0, _, _, _, _, _, _, _, _, _ => none
  | k + 1, x39, x183000, x183001, x183002, x183003, x186000, x186001, x186002, x186003 => if x39 = true then (some 8) else (if x183003 < x186003 then (some 6) else (some 0))
def supercargoref22_Wrong.f (k : Nat) (a0 : ByteArray) (l1 : List (S31)) (a2 : Int) : Option (Int) := if 0 ≤ a2 then (if a2 < (l1.length : Int) then ((supercargoref22_Right.f k ((rd_T31 l1 a2).f0) ((rd_T31 l1 a2).f1) ((rd_T31 l1 a2).f2) ((rd_T31 l1 a2).f3)).bind fun t183 => (if t183 = true then (if a2 = 0 then (if ((rd_T31 l1 a2).f0).toList = a0.toList then (some 0) else (some 8)) else (if 0 ≤ (wrap64 (a2 - 1)) then (if (wrap64 (a2 - 1)) < (l1.length : Int) then (if ((rd_T31 l1 (wrap64 (a2 - 1))).f2) = 2 then (some 9) else (if ((rd_T31 l1 (wrap64 (a2 - 1))).f2) = 0 then (supercargoref22_Wrong.j0 k (((rd_T31 l1 a2).f0).toList != ((rd_T31 l1 (wrap64 (a2 - 1))).f1).toList) ((rd_T31 l1 a2).f0) ((rd_T31 l1 a2).f1) ((rd_T31 l1 a2).f2) ((rd_T31 l1 a2).f3) ((rd_T31 l1 (wrap64 (a2 - 1))).f0) ((rd_T31 l1 (wrap64 (a2 - 1))).f1) ((rd_T31 l1 (wrap64 (a2 - 1))).f2) ((rd_T31 l1 (wrap64 (a2 - 1))).f3)) else (supercargoref22_Wrong.j0 k false ((rd_T31 l1 a2).f0) ((rd_T31 l1 a2).f1) ((rd_T31 l1 a2).f2) ((rd_T31 l1 a2).f3) ((rd_T31 l1 (wrap64 (a2 - 1))).f0) ((rd_T31 l1 (wrap64 (a2 - 1))).f1) ((rd_T31 l1 (wrap64 (a2 - 1))).f2) ((rd_T31 l1 (wrap64 (a2 - 1))).f3)))) else (none)) else (none))) else (some 2))) else (none)) else (none)
theorem supercargoref22_Wrong.mono_l : ∀ k, (∀ y0 y1 y2 y3 y4 y5 y6 y7 y8, LeO (supercargoref22_Wrong.j0 k y0 y1 y2 y3 y4 y5 y6 y7 y8) (supercargoref22_Wrong.j0 (k + 1) y0 y1 y2 y3 y4 y5 y6 y7 y8))
  | 0 => fun _ _ _ _ _ _ _ _ _ r h => by simp [supercargoref22_Wrong.j0] at h
  | k + 1 => by
    have ih0 := supercargoref22_Wrong.mono_l k
    · intro y0 y1 y2 y3 y4 y5 y6 y7 y8
      unfold supercargoref22_Wrong.j0
      repeat' first
      | (with_reducible exact ih0 _ _ _ _ _ _ _ _ _)
      | (with_reducible exact supercargoref22_Right.mono _ _ _ _ _)
      | (with_reducible exact LeO.refl _)
      | (with_reducible exact LeO.none _)
      | (with_reducible refine LeO.ite ?_ ?_)
      | (with_reducible refine LeO.bind ?_ (fun _ => ?_))
      | exact ih0 _ _ _ _ _ _ _ _ _
      | exact supercargoref22_Right.mono _ _ _ _ _
      | exact LeO.none _
      | refine LeO.ite ?_ ?_
      | refine LeO.bind ?_ (fun _ => ?_)
theorem supercargoref22_Wrong.mono : ∀ a0 a1 a2 k, LeO (supercargoref22_Wrong.f k a0 a1 a2) (supercargoref22_Wrong.f (k + 1) a0 a1 a2) := by
  intro a0 a1 a2 k
  have ih0 := supercargoref22_Wrong.mono_l k
  unfold supercargoref22_Wrong.f
  repeat' first
      | (with_reducible exact ih0 _ _ _ _ _ _ _ _ _)
      | (with_reducible exact supercargoref22_Right.mono _ _ _ _ _)
      | (with_reducible exact LeO.refl _)
      | (with_reducible exact LeO.none _)
      | (with_reducible refine LeO.ite ?_ ?_)
      | (with_reducible refine LeO.bind ?_ (fun _ => ?_))
      | exact ih0 _ _ _ _ _ _ _ _ _
      | exact supercargoref22_Right.mono _ _ _ _ _
      | exact LeO.none _
      | refine LeO.ite ?_ ?_
      | refine LeO.bind ?_ (fun _ => ?_)
set_option maxHeartbeats 8000000 in
set_option maxRecDepth 100000 in
theorem supercargoref22_Wrong.calls (k : Nat) (a0 : ByteArray) (A1 : Option Addr) (c1 : Nat) (l1 : List (S31)) (a2 : Int) (r : Int) (w : World) (hr1 : Kd.C k31 w A1 l1.length l1) (hc1 : l1.length ≤ c1) (h : supercargoref22_Wrong.f k a0 l1 a2 = some r) :
    Calls Try.prog 20 #[.string a0, .slice A1 l1.length c1, .int .i64 a2] w fun e w' => e = .returned (.int .i64 r) ∧ Below w.heap.size w w' := by
  have hu31 := Try.underlying31
  have HR1 := Aside0.mk hr1
  have HC1 := Aside0.mk hc1
  clear hr1 hc1
  have HB := Aside0.mk (Below.refl w.heap.size w)
  have H : (if 0 ≤ a2 then (if a2 < (l1.length : Int) then ((supercargoref22_Right.f k ((rd_T31 l1 a2).f0) ((rd_T31 l1 a2).f1) ((rd_T31 l1 a2).f2) ((rd_T31 l1 a2).f3)).bind fun t183 => (if t183 = true then (if a2 = 0 then (if ((rd_T31 l1 a2).f0).toList = a0.toList then (some 0) else (some 8)) else (if 0 ≤ (wrap64 (a2 - 1)) then (if (wrap64 (a2 - 1)) < (l1.length : Int) then (if ((rd_T31 l1 (wrap64 (a2 - 1))).f2) = 2 then (some 9) else (if ((rd_T31 l1 (wrap64 (a2 - 1))).f2) = 0 then (supercargoref22_Wrong.j0 k (((rd_T31 l1 a2).f0).toList != ((rd_T31 l1 (wrap64 (a2 - 1))).f1).toList) ((rd_T31 l1 a2).f0) ((rd_T31 l1 a2).f1) ((rd_T31 l1 a2).f2) ((rd_T31 l1 a2).f3) ((rd_T31 l1 (wrap64 (a2 - 1))).f0) ((rd_T31 l1 (wrap64 (a2 - 1))).f1) ((rd_T31 l1 (wrap64 (a2 - 1))).f2) ((rd_T31 l1 (wrap64 (a2 - 1))).f3)) else (supercargoref22_Wrong.j0 k false ((rd_T31 l1 a2).f0) ((rd_T31 l1 a2).f1) ((rd_T31 l1 a2).f2) ((rd_T31 l1 a2).f3) ((rd_T31 l1 (wrap64 (a2 - 1))).f0) ((rd_T31 l1 (wrap64 (a2 - 1))).f1) ((rd_T31 l1 (wrap64 (a2 - 1))).f2) ((rd_T31 l1 (wrap64 (a2 - 1))).f3)))) else (none)) else (none))) else (some 2))) else (none)) else (none)) = some r := h
  clear h
  by_cases c4 : 0 ≤ a2
  · rw [if_pos c4] at H
    have c4b0 : decide (0 ≤ a2) = true := decide_eq_true c4
    clear c4
    by_cases c5 : a2 < (l1.length : Int)
    · rw [if_pos c5] at H
      have c5b0 : decide (a2 < (l1.length : Int)) = true := decide_eq_true c5
      clear c5
      replace H := Option.bind_eq_some_iff.mp H
      obtain ⟨t183, A60, H⟩ := H
      replace H : (if t183 = true then (if a2 = 0 then (if ((rd_T31 l1 a2).f0).toList = a0.toList then (some 0) else (some 8)) else (if 0 ≤ (wrap64 (a2 - 1)) then (if (wrap64 (a2 - 1)) < (l1.length : Int) then (if ((rd_T31 l1 (wrap64 (a2 - 1))).f2) = 2 then (some 9) else (if ((rd_T31 l1 (wrap64 (a2 - 1))).f2) = 0 then (supercargoref22_Wrong.j0 k (((rd_T31 l1 a2).f0).toList != ((rd_T31 l1 (wrap64 (a2 - 1))).f1).toList) ((rd_T31 l1 a2).f0) ((rd_T31 l1 a2).f1) ((rd_T31 l1 a2).f2) ((rd_T31 l1 a2).f3) ((rd_T31 l1 (wrap64 (a2 - 1))).f0) ((rd_T31 l1 (wrap64 (a2 - 1))).f1) ((rd_T31 l1 (wrap64 (a2 - 1))).f2) ((rd_T31 l1 (wrap64 (a2 - 1))).f3)) else (supercargoref22_Wrong.j0 k false ((rd_T31 l1 a2).f0) ((rd_T31 l1 a2).f1) ((rd_T31 l1 a2).f2) ((rd_T31 l1 a2).f3) ((rd_T31 l1 (wrap64 (a2 - 1))).f0) ((rd_T31 l1 (wrap64 (a2 - 1))).f1) ((rd_T31 l1 (wrap64 (a2 - 1))).f2) ((rd_T31 l1 (wrap64 (a2 - 1))).f3)))) else (none)) else (none))) else (some 2)) = some r := H
      have A6 := Aside0.mk A60
      clear A60
      by_cases c7 : t183 = true
      · subst c7
        have H1 : (if a2 = 0 then (if ((rd_T31 l1 a2).f0).toList = a0.toList then (some 0) else (some 8)) else (if 0 ≤ (wrap64 (a2 - 1)) then (if (wrap64 (a2 - 1)) < (l1.length : Int) then (if ((rd_T31 l1 (wrap64 (a2 - 1))).f2) = 2 then (some 9) else (if ((rd_T31 l1 (wrap64 (a2 - 1))).f2) = 0 then (supercargoref22_Wrong.j0 k (((rd_T31 l1 a2).f0).toList != ((rd_T31 l1 (wrap64 (a2 - 1))).f1).toList) ((rd_T31 l1 a2).f0) ((rd_T31 l1 a2).f1) ((rd_T31 l1 a2).f2) ((rd_T31 l1 a2).f3) ((rd_T31 l1 (wrap64 (a2 - 1))).f0) ((rd_T31 l1 (wrap64 (a2 - 1))).f1) ((rd_T31 l1 (wrap64 (a2 - 1))).f2) ((rd_T31 l1 (wrap64 (a2 - 1))).f3)) else (supercargoref22_Wrong.j0 k false ((rd_T31 l1 a2).f0) ((rd_T31 l1 a2).f1) ((rd_T31 l1 a2).f2) ((rd_T31 l1 a2).f3) ((rd_T31 l1 (wrap64 (a2 - 1))).f0) ((rd_T31 l1 (wrap64 (a2 - 1))).f1) ((rd_T31 l1 (wrap64 (a2 - 1))).f2) ((rd_T31 l1 (wrap64 (a2 - 1))).f3)))) else (none)) else (none))) = some r := by rw [if_pos rfl] at H; exact H
        clear H
        have H := H1
        clear H1
        by_cases c8 : a2 = 0
        · rw [if_pos c8] at H
          have c8b0 : (a2 == 0) = true := beq_iff_eq.mpr c8
          have c8b1 : (a2 != 0) = false := bne_eq_false_iff_eq.mpr c8
          clear c8
          by_cases c9 : ((rd_T31 l1 a2).f0).toList = a0.toList
          · rw [if_pos c9] at H
            have c9b0 : (((rd_T31 l1 a2).f0).toList == a0.toList) = true := beq_iff_eq.mpr c9
            have c9b1 : (((rd_T31 l1 a2).f0).toList != a0.toList) = false := bne_eq_false_iff_eq.mpr c9
            clear c9
            obtain rfl := Option.some.inj H
            have p181 : 0 ≤ (a2 : Int) := of_decide_eq_true (by first | (with_reducible assumption) | assumption)
            have q181 : a2 < (l1.length : Int) := of_decide_eq_true (by first | (with_reducible assumption) | assumption)
            obtain ⟨ad181, e181, hx181_0, hx181_1, hx181_2, hx181_3⟩ := at_T31 HR1.out a2 p181 q181
            cases e181
            replace p181 := eq_true p181
            replace q181 := eq_true q181
            go_enter Try.func20, Try.ntmps20
            go_wp2_with (first | ((with_reducible refine gate_dst (N := 7) rfl ?_); refine box_event ?hg (N := 7) ?hd (cs := #[.string (⟨#[]⟩ : ByteArray), .string (⟨#[]⟩ : ByteArray), .int .i64 0, .int .i64 0]) (t := 31) ?hr ?_; (case hd => rfl); (case hg => rfl); (case hr => first | (go_simp; done) | (go_simp; rfl)); intro gb182 hg w10 hbox hb; have n0_ := Aside0.mk (below_step (by repeat (first | (with_reducible first | exact HB.out | apply below_alloc | apply pw_below_drewN | apply below_drew1) | exact HB.out)) hb); have n1_ := Aside0.mk (hbox); have n2_ := Aside0.mk ((by rw [hg]; exact (below_size (by repeat (first | (with_reducible first | exact HB.out | apply below_alloc | apply pw_below_drewN | apply below_drew1) | exact HB.out))) : w.heap.size ≤ gb182)); have n3_ := Aside0.mk ((by rw [hg]; exact (below_size (by repeat (first | (with_reducible first | exact HB.out | apply below_alloc | apply pw_below_drewN | apply below_drew1) | exact HB.out))) : w.heap.size ≤ gb182)); clear HB; have HB := n0_; have BK182 := n1_; have GW182 := n2_; have GE182 := n3_; clear n0_ n1_ n2_ n3_; clear hb hbox hg; have hcz11_0 : w10.cell? ⟨gb182, 0, none⟩ = some (.string (⟨#[]⟩ : ByteArray)) := (blk_cell BK182.out 0).trans rfl; have hcz11_1 : w10.cell? ⟨gb182, 1, none⟩ = some (.string (⟨#[]⟩ : ByteArray)) := (blk_cell BK182.out 1).trans rfl; have hcz11_2 : w10.cell? ⟨gb182, 2, none⟩ = some (.int .i64 0) := (blk_cell BK182.out 2).trans rfl; have hcz11_3 : w10.cell? ⟨gb182, 3, none⟩ = some (.int .i64 0) := (blk_cell BK182.out 3).trans rfl; have hfz11_0 := blk_frozen BK182.out 0; have hfz11_1 := blk_frozen BK182.out 1; have hfz11_2 := blk_frozen BK182.out 2; have hfz11_3 := blk_frozen BK182.out 3) | ((with_reducible refine gate_callee (f := 27) rfl ?_); refine goesL_ (some 14) rfl rfl Try.func27 (by kernel_rfl) rfl #[.agg #[.string ((rd_T31 l1 a2).f0), .string ((rd_T31 l1 a2).f1), .int .i64 ((rd_T31 l1 a2).f2), .int .i64 ((rd_T31 l1 a2).f3)]] rfl (by (try simp only [List.map_toArray, List.map_cons, List.map_nil]); first | done | rfl | (simp only [List.length_drop, List.length_take]; rfl)) ?_; (with_reducible refine (supercargoref22_Right.calls k ((rd_T31 l1 a2).f0) ((rd_T31 l1 a2).f1) ((rd_T31 l1 a2).f2) ((rd_T31 l1 a2).f3) true _ A6.out).mono ?_); rintro e w12 ⟨rfl, hb⟩; refine ⟨_, rfl, ?_⟩; have n0_ := Aside0.mk (blk_below (g := gb182) (o := .cells #[.string ((rd_T31 l1 a2).f0), .string ((rd_T31 l1 a2).f1), .int .i64 ((rd_T31 l1 a2).f2), .int .i64 ((rd_T31 l1 a2).f3)] 31 (0, 0)) (by (with_reducible repeat (first | refine blk_drewN ?_ _ | refine blk_drew ?_ | refine blk_alloc ?_ _)); refine blk_put (cs := #[.string ((rd_T31 l1 a2).f0), .string ((rd_T31 l1 a2).f1), .int .i64 ((rd_T31 l1 a2).f2), .int .i64 0]) ?_ 3 _ rfl; (with_reducible repeat (first | refine blk_drewN ?_ _ | refine blk_drew ?_ | refine blk_alloc ?_ _)); refine blk_put (cs := #[.string ((rd_T31 l1 a2).f0), .string ((rd_T31 l1 a2).f1), .int .i64 0, .int .i64 0]) ?_ 2 _ rfl; (with_reducible repeat (first | refine blk_drewN ?_ _ | refine blk_drew ?_ | refine blk_alloc ?_ _)); refine blk_put (cs := #[.string ((rd_T31 l1 a2).f0), .string (⟨#[]⟩ : ByteArray), .int .i64 0, .int .i64 0]) ?_ 1 _ rfl; (with_reducible repeat (first | refine blk_drewN ?_ _ | refine blk_drew ?_ | refine blk_alloc ?_ _)); refine blk_put (cs := #[.string (⟨#[]⟩ : ByteArray), .string (⟨#[]⟩ : ByteArray), .int .i64 0, .int .i64 0]) ?_ 0 _ rfl; (with_reducible repeat (first | refine blk_drewN ?_ _ | refine blk_drew ?_ | refine blk_alloc ?_ _)); exact BK182.out) hb); have n1_ := Aside0.mk (below_step (by repeat (first | (with_reducible first | exact HB.out | apply below_alloc | apply pw_below_drewN | apply below_drew1 | refine below_set ?_ GE182.out) | exact HB.out)) hb); clear BK182; clear HB; have BK182 := n0_; have HB := n1_; clear n0_ n1_; (try clear hb); (try clear hb2); (try clear hk); (try clear hi); have hcz13_0 : w12.cell? ⟨gb182, 0, none⟩ = some (.string ((rd_T31 l1 a2).f0)) := (blk_cell BK182.out 0).trans rfl; have hcz13_1 : w12.cell? ⟨gb182, 1, none⟩ = some (.string ((rd_T31 l1 a2).f1)) := (blk_cell BK182.out 1).trans rfl; have hcz13_2 : w12.cell? ⟨gb182, 2, none⟩ = some (.int .i64 ((rd_T31 l1 a2).f2)) := (blk_cell BK182.out 2).trans rfl; have hcz13_3 : w12.cell? ⟨gb182, 3, none⟩ = some (.int .i64 ((rd_T31 l1 a2).f3)) := (blk_cell BK182.out 3).trans rfl; have hfz13_0 := blk_frozen BK182.out 0; have hfz13_1 := blk_frozen BK182.out 1; have hfz13_2 := blk_frozen BK182.out 2; have hfz13_3 := blk_frozen BK182.out 3))
            go_ret
            exact ⟨by first | rfl | (simp [errW_none, errW_some] <;> rfl) | (simp [*, errW_none, errW_some] <;> rfl), by repeat (first | (with_reducible first | exact HB.out | apply below_alloc | apply pw_below_drewN | apply below_drew1 | refine below_set ?_ GE182.out) | exact HB.out)⟩
          · rw [if_neg c9] at H
            have c9b0 : (((rd_T31 l1 a2).f0).toList == a0.toList) = false := beq_eq_false_iff_ne.mpr c9
            have c9b1 : (((rd_T31 l1 a2).f0).toList != a0.toList) = true := bne_iff_ne.mpr c9
            obtain rfl := Option.some.inj H
            have p181 : 0 ≤ (a2 : Int) := of_decide_eq_true (by first | (with_reducible assumption) | assumption)
            have q181 : a2 < (l1.length : Int) := of_decide_eq_true (by first | (with_reducible assumption) | assumption)
            obtain ⟨ad181, e181, hx181_0, hx181_1, hx181_2, hx181_3⟩ := at_T31 HR1.out a2 p181 q181
            cases e181
            replace p181 := eq_true p181
            replace q181 := eq_true q181
            go_enter Try.func20, Try.ntmps20
            go_wp2_with (first | ((with_reducible refine gate_dst (N := 7) rfl ?_); refine box_event ?hg (N := 7) ?hd (cs := #[.string (⟨#[]⟩ : ByteArray), .string (⟨#[]⟩ : ByteArray), .int .i64 0, .int .i64 0]) (t := 31) ?hr ?_; (case hd => rfl); (case hg => rfl); (case hr => first | (go_simp; done) | (go_simp; rfl)); intro gb182 hg w14 hbox hb; have n0_ := Aside0.mk (below_step (by repeat (first | (with_reducible first | exact HB.out | apply below_alloc | apply pw_below_drewN | apply below_drew1) | exact HB.out)) hb); have n1_ := Aside0.mk (hbox); have n2_ := Aside0.mk ((by rw [hg]; exact (below_size (by repeat (first | (with_reducible first | exact HB.out | apply below_alloc | apply pw_below_drewN | apply below_drew1) | exact HB.out))) : w.heap.size ≤ gb182)); have n3_ := Aside0.mk ((by rw [hg]; exact (below_size (by repeat (first | (with_reducible first | exact HB.out | apply below_alloc | apply pw_below_drewN | apply below_drew1) | exact HB.out))) : w.heap.size ≤ gb182)); clear HB; have HB := n0_; have BK182 := n1_; have GW182 := n2_; have GE182 := n3_; clear n0_ n1_ n2_ n3_; clear hb hbox hg; have hcz15_0 : w14.cell? ⟨gb182, 0, none⟩ = some (.string (⟨#[]⟩ : ByteArray)) := (blk_cell BK182.out 0).trans rfl; have hcz15_1 : w14.cell? ⟨gb182, 1, none⟩ = some (.string (⟨#[]⟩ : ByteArray)) := (blk_cell BK182.out 1).trans rfl; have hcz15_2 : w14.cell? ⟨gb182, 2, none⟩ = some (.int .i64 0) := (blk_cell BK182.out 2).trans rfl; have hcz15_3 : w14.cell? ⟨gb182, 3, none⟩ = some (.int .i64 0) := (blk_cell BK182.out 3).trans rfl; have hfz15_0 := blk_frozen BK182.out 0; have hfz15_1 := blk_frozen BK182.out 1; have hfz15_2 := blk_frozen BK182.out 2; have hfz15_3 := blk_frozen BK182.out 3) | ((with_reducible refine gate_callee (f := 27) rfl ?_); refine goesL_ (some 14) rfl rfl Try.func27 (by kernel_rfl) rfl #[.agg #[.string ((rd_T31 l1 a2).f0), .string ((rd_T31 l1 a2).f1), .int .i64 ((rd_T31 l1 a2).f2), .int .i64 ((rd_T31 l1 a2).f3)]] rfl (by (try simp only [List.map_toArray, List.map_cons, List.map_nil]); first | done | rfl | (simp only [List.length_drop, List.length_take]; rfl)) ?_; (with_reducible refine (supercargoref22_Right.calls k ((rd_T31 l1 a2).f0) ((rd_T31 l1 a2).f1) ((rd_T31 l1 a2).f2) ((rd_T31 l1 a2).f3) true _ A6.out).mono ?_); rintro e w16 ⟨rfl, hb⟩; refine ⟨_, rfl, ?_⟩; have n0_ := Aside0.mk (blk_below (g := gb182) (o := .cells #[.string ((rd_T31 l1 a2).f0), .string ((rd_T31 l1 a2).f1), .int .i64 ((rd_T31 l1 a2).f2), .int .i64 ((rd_T31 l1 a2).f3)] 31 (0, 0)) (by (with_reducible repeat (first | refine blk_drewN ?_ _ | refine blk_drew ?_ | refine blk_alloc ?_ _)); refine blk_put (cs := #[.string ((rd_T31 l1 a2).f0), .string ((rd_T31 l1 a2).f1), .int .i64 ((rd_T31 l1 a2).f2), .int .i64 0]) ?_ 3 _ rfl; (with_reducible repeat (first | refine blk_drewN ?_ _ | refine blk_drew ?_ | refine blk_alloc ?_ _)); refine blk_put (cs := #[.string ((rd_T31 l1 a2).f0), .string ((rd_T31 l1 a2).f1), .int .i64 0, .int .i64 0]) ?_ 2 _ rfl; (with_reducible repeat (first | refine blk_drewN ?_ _ | refine blk_drew ?_ | refine blk_alloc ?_ _)); refine blk_put (cs := #[.string ((rd_T31 l1 a2).f0), .string (⟨#[]⟩ : ByteArray), .int .i64 0, .int .i64 0]) ?_ 1 _ rfl; (with_reducible repeat (first | refine blk_drewN ?_ _ | refine blk_drew ?_ | refine blk_alloc ?_ _)); refine blk_put (cs := #[.string (⟨#[]⟩ : ByteArray), .string (⟨#[]⟩ : ByteArray), .int .i64 0, .int .i64 0]) ?_ 0 _ rfl; (with_reducible repeat (first | refine blk_drewN ?_ _ | refine blk_drew ?_ | refine blk_alloc ?_ _)); exact BK182.out) hb); have n1_ := Aside0.mk (below_step (by repeat (first | (with_reducible first | exact HB.out | apply below_alloc | apply pw_below_drewN | apply below_drew1 | refine below_set ?_ GE182.out) | exact HB.out)) hb); clear BK182; clear HB; have BK182 := n0_; have HB := n1_; clear n0_ n1_; (try clear hb); (try clear hb2); (try clear hk); (try clear hi); have hcz17_0 : w16.cell? ⟨gb182, 0, none⟩ = some (.string ((rd_T31 l1 a2).f0)) := (blk_cell BK182.out 0).trans rfl; have hcz17_1 : w16.cell? ⟨gb182, 1, none⟩ = some (.string ((rd_T31 l1 a2).f1)) := (blk_cell BK182.out 1).trans rfl; have hcz17_2 : w16.cell? ⟨gb182, 2, none⟩ = some (.int .i64 ((rd_T31 l1 a2).f2)) := (blk_cell BK182.out 2).trans rfl; have hcz17_3 : w16.cell? ⟨gb182, 3, none⟩ = some (.int .i64 ((rd_T31 l1 a2).f3)) := (blk_cell BK182.out 3).trans rfl; have hfz17_0 := blk_frozen BK182.out 0; have hfz17_1 := blk_frozen BK182.out 1; have hfz17_2 := blk_frozen BK182.out 2; have hfz17_3 := blk_frozen BK182.out 3))
            go_ret
            exact ⟨by first | rfl | (simp [errW_none, errW_some] <;> rfl) | (simp [*, errW_none, errW_some] <;> rfl), by repeat (first | (with_reducible first | exact HB.out | apply below_alloc | apply pw_below_drewN | apply below_drew1 | refine below_set ?_ GE182.out) | exact HB.out)⟩
        · rw [if_neg c8] at H
          have c8b0 : (a2 == 0) = false := beq_eq_false_iff_ne.mpr c8
          have c8b1 : (a2 != 0) = true := bne_iff_ne.mpr c8
          obtain ⟨ji18, hji18⟩ : ∃ j_ : Int, (wrap64 (a2 - 1)) = j_ := ⟨_, rfl⟩
          replace H : (if 0 ≤ (ji18) then (if (ji18) < (l1.length : Int) then (if ((rd_T31 l1 (ji18)).f2) = 2 then (some 9) else (if ((rd_T31 l1 (ji18)).f2) = 0 then (supercargoref22_Wrong.j0 k (((rd_T31 l1 a2).f0).toList != ((rd_T31 l1 (ji18)).f1).toList) ((rd_T31 l1 a2).f0) ((rd_T31 l1 a2).f1) ((rd_T31 l1 a2).f2) ((rd_T31 l1 a2).f3) ((rd_T31 l1 (ji18)).f0) ((rd_T31 l1 (ji18)).f1) ((rd_T31 l1 (ji18)).f2) ((rd_T31 l1 (ji18)).f3)) else (supercargoref22_Wrong.j0 k false ((rd_T31 l1 a2).f0) ((rd_T31 l1 a2).f1) ((rd_T31 l1 a2).f2) ((rd_T31 l1 a2).f3) ((rd_T31 l1 (ji18)).f0) ((rd_T31 l1 (ji18)).f1) ((rd_T31 l1 (ji18)).f2) ((rd_T31 l1 (ji18)).f3)))) else (none)) else (none)) = some r := by first | (rw [hji18] at H; exact H) | (simp only [hji18] at H ⊢; exact H)
          (try rw [hji18] at A6)
          have hji18w : (IntKind.i64.wrap (a2 - 1)) = ji18 := (i64_w _).trans hji18
          by_cases c19 : 0 ≤ (ji18)
          · rw [if_pos c19] at H
            have c19b0 : decide (0 ≤ (ji18)) = true := decide_eq_true c19
            clear c19
            by_cases c20 : (ji18) < (l1.length : Int)
            · rw [if_pos c20] at H
              have c20b0 : decide ((ji18) < (l1.length : Int)) = true := decide_eq_true c20
              clear c20
              by_cases c21 : ((rd_T31 l1 (ji18)).f2) = 2
              · rw [if_pos c21] at H
                have c21b0 : (((rd_T31 l1 (ji18)).f2) == 2) = true := beq_iff_eq.mpr c21
                have c21b1 : (((rd_T31 l1 (ji18)).f2) != 2) = false := bne_eq_false_iff_eq.mpr c21
                clear c21
                obtain rfl := Option.some.inj H
                have p181 : 0 ≤ (a2 : Int) := of_decide_eq_true (by first | (with_reducible assumption) | assumption)
                have q181 : a2 < (l1.length : Int) := of_decide_eq_true (by first | (with_reducible assumption) | assumption)
                obtain ⟨ad181, e181, hx181_0, hx181_1, hx181_2, hx181_3⟩ := at_T31 HR1.out a2 p181 q181
                cases e181
                replace p181 := eq_true p181
                replace q181 := eq_true q181
                go_enter Try.func20, Try.ntmps20
                go_wp2_with (first | ((with_reducible refine gate_dst (N := 7) rfl ?_); refine box_event ?hg (N := 7) ?hd (cs := #[.string (⟨#[]⟩ : ByteArray), .string (⟨#[]⟩ : ByteArray), .int .i64 0, .int .i64 0]) (t := 31) ?hr ?_; (case hd => rfl); (case hg => rfl); (case hr => first | (go_simp; done) | (go_simp; rfl)); intro gb182 hg w22 hbox hb; have n0_ := Aside0.mk (below_step (by repeat (first | (with_reducible first | exact HB.out | apply below_alloc | apply pw_below_drewN | apply below_drew1) | exact HB.out)) hb); have n1_ := Aside0.mk (hbox); have n2_ := Aside0.mk ((by rw [hg]; exact (below_size (by repeat (first | (with_reducible first | exact HB.out | apply below_alloc | apply pw_below_drewN | apply below_drew1) | exact HB.out))) : w.heap.size ≤ gb182)); have n3_ := Aside0.mk ((by rw [hg]; exact (below_size (by repeat (first | (with_reducible first | exact HB.out | apply below_alloc | apply pw_below_drewN | apply below_drew1) | exact HB.out))) : w.heap.size ≤ gb182)); clear HB; have HB := n0_; have BK182 := n1_; have GW182 := n2_; have GE182 := n3_; clear n0_ n1_ n2_ n3_; clear hb hbox hg; have hcz23_0 : w22.cell? ⟨gb182, 0, none⟩ = some (.string (⟨#[]⟩ : ByteArray)) := (blk_cell BK182.out 0).trans rfl; have hcz23_1 : w22.cell? ⟨gb182, 1, none⟩ = some (.string (⟨#[]⟩ : ByteArray)) := (blk_cell BK182.out 1).trans rfl; have hcz23_2 : w22.cell? ⟨gb182, 2, none⟩ = some (.int .i64 0) := (blk_cell BK182.out 2).trans rfl; have hcz23_3 : w22.cell? ⟨gb182, 3, none⟩ = some (.int .i64 0) := (blk_cell BK182.out 3).trans rfl; have hfz23_0 := blk_frozen BK182.out 0; have hfz23_1 := blk_frozen BK182.out 1; have hfz23_2 := blk_frozen BK182.out 2; have hfz23_3 := blk_frozen BK182.out 3) | ((with_reducible refine gate_callee (f := 27) rfl ?_); refine goesL_ (some 14) rfl rfl Try.func27 (by kernel_rfl) rfl #[.agg #[.string ((rd_T31 l1 a2).f0), .string ((rd_T31 l1 a2).f1), .int .i64 ((rd_T31 l1 a2).f2), .int .i64 ((rd_T31 l1 a2).f3)]] rfl (by (try simp only [List.map_toArray, List.map_cons, List.map_nil]); first | done | rfl | (simp only [List.length_drop, List.length_take]; rfl)) ?_; (with_reducible refine (supercargoref22_Right.calls k ((rd_T31 l1 a2).f0) ((rd_T31 l1 a2).f1) ((rd_T31 l1 a2).f2) ((rd_T31 l1 a2).f3) true _ A6.out).mono ?_); rintro e w24 ⟨rfl, hb⟩; refine ⟨_, rfl, ?_⟩; have n0_ := Aside0.mk (blk_below (g := gb182) (o := .cells #[.string ((rd_T31 l1 a2).f0), .string ((rd_T31 l1 a2).f1), .int .i64 ((rd_T31 l1 a2).f2), .int .i64 ((rd_T31 l1 a2).f3)] 31 (0, 0)) (by (with_reducible repeat (first | refine blk_drewN ?_ _ | refine blk_drew ?_ | refine blk_alloc ?_ _)); refine blk_put (cs := #[.string ((rd_T31 l1 a2).f0), .string ((rd_T31 l1 a2).f1), .int .i64 ((rd_T31 l1 a2).f2), .int .i64 0]) ?_ 3 _ rfl; (with_reducible repeat (first | refine blk_drewN ?_ _ | refine blk_drew ?_ | refine blk_alloc ?_ _)); refine blk_put (cs := #[.string ((rd_T31 l1 a2).f0), .string ((rd_T31 l1 a2).f1), .int .i64 0, .int .i64 0]) ?_ 2 _ rfl; (with_reducible repeat (first | refine blk_drewN ?_ _ | refine blk_drew ?_ | refine blk_alloc ?_ _)); refine blk_put (cs := #[.string ((rd_T31 l1 a2).f0), .string (⟨#[]⟩ : ByteArray), .int .i64 0, .int .i64 0]) ?_ 1 _ rfl; (with_reducible repeat (first | refine blk_drewN ?_ _ | refine blk_drew ?_ | refine blk_alloc ?_ _)); refine blk_put (cs := #[.string (⟨#[]⟩ : ByteArray), .string (⟨#[]⟩ : ByteArray), .int .i64 0, .int .i64 0]) ?_ 0 _ rfl; (with_reducible repeat (first | refine blk_drewN ?_ _ | refine blk_drew ?_ | refine blk_alloc ?_ _)); exact BK182.out) hb); have n1_ := Aside0.mk (below_step (by repeat (first | (with_reducible first | exact HB.out | apply below_alloc | apply pw_below_drewN | apply below_drew1 | refine below_set ?_ GE182.out) | exact HB.out)) hb); clear BK182; clear HB; have BK182 := n0_; have HB := n1_; clear n0_ n1_; (try clear hb); (try clear hb2); (try clear hk); (try clear hi); have p184 : 0 ≤ ((ji18) : Int) := of_decide_eq_true (by first | (with_reducible assumption) | assumption); have q184 : (ji18) < (l1.length : Int) := of_decide_eq_true (by first | (with_reducible assumption) | assumption); obtain ⟨ad184, e184, hx184_0, hx184_1, hx184_2, hx184_3⟩ := at_T31 HR1.out (ji18) p184 q184; obtain rfl : ad181 = ad184 := (by injection e184); replace hx184_0 := (HB.out.cell (World.block_lt_of_cell? w _ hx184_0)).trans hx184_0; replace hx184_1 := (HB.out.cell (World.block_lt_of_cell? w _ hx184_1)).trans hx184_1; replace hx184_2 := (HB.out.cell (World.block_lt_of_cell? w _ hx184_2)).trans hx184_2; replace hx184_3 := (HB.out.cell (World.block_lt_of_cell? w _ hx184_3)).trans hx184_3; replace p184 := eq_true p184; replace q184 := eq_true q184) | ((with_reducible refine gate_dst (N := 8) rfl ?_); refine box_event ?hg (N := 8) ?hd (cs := #[.string (⟨#[]⟩ : ByteArray), .string (⟨#[]⟩ : ByteArray), .int .i64 0, .int .i64 0]) (t := 31) ?hr ?_; (case hd => rfl); (case hg => rfl); (case hr => first | (go_simp; done) | (go_simp; rfl)); intro gb185 hg w25 hbox hb; have n0_ := Aside0.mk (blk_below (g := gb182) (o := .cells #[.string ((rd_T31 l1 a2).f0), .string ((rd_T31 l1 a2).f1), .int .i64 ((rd_T31 l1 a2).f2), .int .i64 ((rd_T31 l1 a2).f3)] 31 (0, 0)) (by (with_reducible repeat (first | refine blk_drewN ?_ _ | refine blk_drew ?_ | refine blk_alloc ?_ _)); exact BK182.out) hb); have n1_ := Aside0.mk (below_step (by repeat (first | (with_reducible first | exact HB.out | apply below_alloc | apply pw_below_drewN | apply below_drew1 | refine below_set ?_ GE182.out) | exact HB.out)) hb); have n2_ := Aside0.mk (hbox); have n3_ := Aside0.mk ((by rw [hg]; exact (below_size (by repeat (first | (with_reducible first | exact HB.out | apply below_alloc | apply pw_below_drewN | apply below_drew1 | refine below_set ?_ GE182.out) | exact HB.out))) : w.heap.size ≤ gb185)); have n4_ := Aside0.mk ((by rw [hg]; exact (below_size (by repeat (first | (with_reducible first | exact HB.out | apply below_alloc | apply pw_below_drewN | apply below_drew1 | refine below_set ?_ GE182.out) | exact HB.out))) : w.heap.size ≤ gb185)); have n5_ := Aside0.mk ((by rw [hg]; exact Nat.ne_of_lt (blk_lt (g := gb182) (o := .cells #[.string ((rd_T31 l1 a2).f0), .string ((rd_T31 l1 a2).f1), .int .i64 ((rd_T31 l1 a2).f2), .int .i64 ((rd_T31 l1 a2).f3)] 31 (0, 0)) (by (with_reducible repeat (first | refine blk_drewN ?_ _ | refine blk_drew ?_ | refine blk_alloc ?_ _)); exact BK182.out)) : gb182 ≠ gb185)); have n6_ := Aside0.mk ((by rw [hg]; exact Nat.ne_of_gt (blk_lt (g := gb182) (o := .cells #[.string ((rd_T31 l1 a2).f0), .string ((rd_T31 l1 a2).f1), .int .i64 ((rd_T31 l1 a2).f2), .int .i64 ((rd_T31 l1 a2).f3)] 31 (0, 0)) (by (with_reducible repeat (first | refine blk_drewN ?_ _ | refine blk_drew ?_ | refine blk_alloc ?_ _)); exact BK182.out)) : gb185 ≠ gb182)); clear BK182; clear HB; have BK182 := n0_; have HB := n1_; have BK185 := n2_; have GW185 := n3_; have GE185 := n4_; have NB182_185 := n5_; have NB185_182 := n6_; clear n0_ n1_ n2_ n3_ n4_ n5_ n6_; clear hb hbox hg; have hnb26 := NB185_182.out; have hnc26 := NB182_185.out; have hcz27_0 : w25.cell? ⟨gb185, 0, none⟩ = some (.string (⟨#[]⟩ : ByteArray)) := (blk_cell BK185.out 0).trans rfl; have hcz27_1 : w25.cell? ⟨gb185, 1, none⟩ = some (.string (⟨#[]⟩ : ByteArray)) := (blk_cell BK185.out 1).trans rfl; have hcz27_2 : w25.cell? ⟨gb185, 2, none⟩ = some (.int .i64 0) := (blk_cell BK185.out 2).trans rfl; have hcz27_3 : w25.cell? ⟨gb185, 3, none⟩ = some (.int .i64 0) := (blk_cell BK185.out 3).trans rfl; have hfz27_0 := blk_frozen BK185.out 0; have hfz27_1 := blk_frozen BK185.out 1; have hfz27_2 := blk_frozen BK185.out 2; have hfz27_3 := blk_frozen BK185.out 3))
                go_ret
                exact ⟨by first | rfl | (simp [errW_none, errW_some] <;> rfl) | (simp only [← hji18]; first | rfl | (simp [errW_none, errW_some] <;> rfl)) | (simp [*, errW_none, errW_some] <;> rfl), by repeat (first | (with_reducible first | exact HB.out | apply below_alloc | apply pw_below_drewN | apply below_drew1 | refine below_set ?_ GE182.out | refine below_set ?_ GE185.out) | exact HB.out)⟩
              · rw [if_neg c21] at H
                have c21b0 : (((rd_T31 l1 (ji18)).f2) == 2) = false := beq_eq_false_iff_ne.mpr c21
                have c21b1 : (((rd_T31 l1 (ji18)).f2) != 2) = true := bne_iff_ne.mpr c21
                have HC28 := Aside0.mk H
                clear H
                have p181 : 0 ≤ (a2 : Int) := of_decide_eq_true (by first | (with_reducible assumption) | assumption)
                have q181 : a2 < (l1.length : Int) := of_decide_eq_true (by first | (with_reducible assumption) | assumption)
                obtain ⟨ad181, e181, hx181_0, hx181_1, hx181_2, hx181_3⟩ := at_T31 HR1.out a2 p181 q181
                cases e181
                replace p181 := eq_true p181
                replace q181 := eq_true q181
                go_enter Try.func20, Try.ntmps20
                go_upto_region 11 with (first | ((with_reducible refine gate_dst (N := 7) rfl ?_); refine box_event ?hg (N := 7) ?hd (cs := #[.string (⟨#[]⟩ : ByteArray), .string (⟨#[]⟩ : ByteArray), .int .i64 0, .int .i64 0]) (t := 31) ?hr ?_; (case hd => rfl); (case hg => rfl); (case hr => first | (go_simp; done) | (go_simp; rfl)); intro gb182 hg w29 hbox hb; have n0_ := Aside0.mk (below_step (by repeat (first | (with_reducible first | exact HB.out | apply below_alloc | apply pw_below_drewN | apply below_drew1) | exact HB.out)) hb); have n1_ := Aside0.mk (hbox); have n2_ := Aside0.mk ((by rw [hg]; exact (below_size (by repeat (first | (with_reducible first | exact HB.out | apply below_alloc | apply pw_below_drewN | apply below_drew1) | exact HB.out))) : w.heap.size ≤ gb182)); have n3_ := Aside0.mk ((by rw [hg]; exact (below_size (by repeat (first | (with_reducible first | exact HB.out | apply below_alloc | apply pw_below_drewN | apply below_drew1) | exact HB.out))) : w.heap.size ≤ gb182)); clear HB; have HB := n0_; have BK182 := n1_; have GW182 := n2_; have GE182 := n3_; clear n0_ n1_ n2_ n3_; clear hb hbox hg; have hcz30_0 : w29.cell? ⟨gb182, 0, none⟩ = some (.string (⟨#[]⟩ : ByteArray)) := (blk_cell BK182.out 0).trans rfl; have hcz30_1 : w29.cell? ⟨gb182, 1, none⟩ = some (.string (⟨#[]⟩ : ByteArray)) := (blk_cell BK182.out 1).trans rfl; have hcz30_2 : w29.cell? ⟨gb182, 2, none⟩ = some (.int .i64 0) := (blk_cell BK182.out 2).trans rfl; have hcz30_3 : w29.cell? ⟨gb182, 3, none⟩ = some (.int .i64 0) := (blk_cell BK182.out 3).trans rfl; have hfz30_0 := blk_frozen BK182.out 0; have hfz30_1 := blk_frozen BK182.out 1; have hfz30_2 := blk_frozen BK182.out 2; have hfz30_3 := blk_frozen BK182.out 3) | ((with_reducible refine gate_callee (f := 27) rfl ?_); refine goesL_ (some 14) rfl rfl Try.func27 (by kernel_rfl) rfl #[.agg #[.string ((rd_T31 l1 a2).f0), .string ((rd_T31 l1 a2).f1), .int .i64 ((rd_T31 l1 a2).f2), .int .i64 ((rd_T31 l1 a2).f3)]] rfl (by (try simp only [List.map_toArray, List.map_cons, List.map_nil]); first | done | rfl | (simp only [List.length_drop, List.length_take]; rfl)) ?_; (with_reducible refine (supercargoref22_Right.calls k ((rd_T31 l1 a2).f0) ((rd_T31 l1 a2).f1) ((rd_T31 l1 a2).f2) ((rd_T31 l1 a2).f3) true _ A6.out).mono ?_); rintro e w31 ⟨rfl, hb⟩; refine ⟨_, rfl, ?_⟩; have n0_ := Aside0.mk (blk_below (g := gb182) (o := .cells #[.string ((rd_T31 l1 a2).f0), .string ((rd_T31 l1 a2).f1), .int .i64 ((rd_T31 l1 a2).f2), .int .i64 ((rd_T31 l1 a2).f3)] 31 (0, 0)) (by (with_reducible repeat (first | refine blk_drewN ?_ _ | refine blk_drew ?_ | refine blk_alloc ?_ _)); refine blk_put (cs := #[.string ((rd_T31 l1 a2).f0), .string ((rd_T31 l1 a2).f1), .int .i64 ((rd_T31 l1 a2).f2), .int .i64 0]) ?_ 3 _ rfl; (with_reducible repeat (first | refine blk_drewN ?_ _ | refine blk_drew ?_ | refine blk_alloc ?_ _)); refine blk_put (cs := #[.string ((rd_T31 l1 a2).f0), .string ((rd_T31 l1 a2).f1), .int .i64 0, .int .i64 0]) ?_ 2 _ rfl; (with_reducible repeat (first | refine blk_drewN ?_ _ | refine blk_drew ?_ | refine blk_alloc ?_ _)); refine blk_put (cs := #[.string ((rd_T31 l1 a2).f0), .string (⟨#[]⟩ : ByteArray), .int .i64 0, .int .i64 0]) ?_ 1 _ rfl; (with_reducible repeat (first | refine blk_drewN ?_ _ | refine blk_drew ?_ | refine blk_alloc ?_ _)); refine blk_put (cs := #[.string (⟨#[]⟩ : ByteArray), .string (⟨#[]⟩ : ByteArray), .int .i64 0, .int .i64 0]) ?_ 0 _ rfl; (with_reducible repeat (first | refine blk_drewN ?_ _ | refine blk_drew ?_ | refine blk_alloc ?_ _)); exact BK182.out) hb); have n1_ := Aside0.mk (below_step (by repeat (first | (with_reducible first | exact HB.out | apply below_alloc | apply pw_below_drewN | apply below_drew1 | refine below_set ?_ GE182.out) | exact HB.out)) hb); clear BK182; clear HB; have BK182 := n0_; have HB := n1_; clear n0_ n1_; (try clear hb); (try clear hb2); (try clear hk); (try clear hi); have p184 : 0 ≤ ((ji18) : Int) := of_decide_eq_true (by first | (with_reducible assumption) | assumption); have q184 : (ji18) < (l1.length : Int) := of_decide_eq_true (by first | (with_reducible assumption) | assumption); obtain ⟨ad184, e184, hx184_0, hx184_1, hx184_2, hx184_3⟩ := at_T31 HR1.out (ji18) p184 q184; obtain rfl : ad181 = ad184 := (by injection e184); replace hx184_0 := (HB.out.cell (World.block_lt_of_cell? w _ hx184_0)).trans hx184_0; replace hx184_1 := (HB.out.cell (World.block_lt_of_cell? w _ hx184_1)).trans hx184_1; replace hx184_2 := (HB.out.cell (World.block_lt_of_cell? w _ hx184_2)).trans hx184_2; replace hx184_3 := (HB.out.cell (World.block_lt_of_cell? w _ hx184_3)).trans hx184_3; replace p184 := eq_true p184; replace q184 := eq_true q184) | ((with_reducible refine gate_dst (N := 8) rfl ?_); refine box_event ?hg (N := 8) ?hd (cs := #[.string (⟨#[]⟩ : ByteArray), .string (⟨#[]⟩ : ByteArray), .int .i64 0, .int .i64 0]) (t := 31) ?hr ?_; (case hd => rfl); (case hg => rfl); (case hr => first | (go_simp; done) | (go_simp; rfl)); intro gb185 hg w32 hbox hb; have n0_ := Aside0.mk (blk_below (g := gb182) (o := .cells #[.string ((rd_T31 l1 a2).f0), .string ((rd_T31 l1 a2).f1), .int .i64 ((rd_T31 l1 a2).f2), .int .i64 ((rd_T31 l1 a2).f3)] 31 (0, 0)) (by (with_reducible repeat (first | refine blk_drewN ?_ _ | refine blk_drew ?_ | refine blk_alloc ?_ _)); exact BK182.out) hb); have n1_ := Aside0.mk (below_step (by repeat (first | (with_reducible first | exact HB.out | apply below_alloc | apply pw_below_drewN | apply below_drew1 | refine below_set ?_ GE182.out) | exact HB.out)) hb); have n2_ := Aside0.mk (hbox); have n3_ := Aside0.mk ((by rw [hg]; exact (below_size (by repeat (first | (with_reducible first | exact HB.out | apply below_alloc | apply pw_below_drewN | apply below_drew1 | refine below_set ?_ GE182.out) | exact HB.out))) : w.heap.size ≤ gb185)); have n4_ := Aside0.mk ((by rw [hg]; exact (below_size (by repeat (first | (with_reducible first | exact HB.out | apply below_alloc | apply pw_below_drewN | apply below_drew1 | refine below_set ?_ GE182.out) | exact HB.out))) : w.heap.size ≤ gb185)); have n5_ := Aside0.mk ((by rw [hg]; exact Nat.ne_of_lt (blk_lt (g := gb182) (o := .cells #[.string ((rd_T31 l1 a2).f0), .string ((rd_T31 l1 a2).f1), .int .i64 ((rd_T31 l1 a2).f2), .int .i64 ((rd_T31 l1 a2).f3)] 31 (0, 0)) (by (with_reducible repeat (first | refine blk_drewN ?_ _ | refine blk_drew ?_ | refine blk_alloc ?_ _)); exact BK182.out)) : gb182 ≠ gb185)); have n6_ := Aside0.mk ((by rw [hg]; exact Nat.ne_of_gt (blk_lt (g := gb182) (o := .cells #[.string ((rd_T31 l1 a2).f0), .string ((rd_T31 l1 a2).f1), .int .i64 ((rd_T31 l1 a2).f2), .int .i64 ((rd_T31 l1 a2).f3)] 31 (0, 0)) (by (with_reducible repeat (first | refine blk_drewN ?_ _ | refine blk_drew ?_ | refine blk_alloc ?_ _)); exact BK182.out)) : gb185 ≠ gb182)); clear BK182; clear HB; have BK182 := n0_; have HB := n1_; have BK185 := n2_; have GW185 := n3_; have GE185 := n4_; have NB182_185 := n5_; have NB185_182 := n6_; clear n0_ n1_ n2_ n3_ n4_ n5_ n6_; clear hb hbox hg; have hnb33 := NB185_182.out; have hnc33 := NB182_185.out; have hcz34_0 : w32.cell? ⟨gb185, 0, none⟩ = some (.string (⟨#[]⟩ : ByteArray)) := (blk_cell BK185.out 0).trans rfl; have hcz34_1 : w32.cell? ⟨gb185, 1, none⟩ = some (.string (⟨#[]⟩ : ByteArray)) := (blk_cell BK185.out 1).trans rfl; have hcz34_2 : w32.cell? ⟨gb185, 2, none⟩ = some (.int .i64 0) := (blk_cell BK185.out 2).trans rfl; have hcz34_3 : w32.cell? ⟨gb185, 3, none⟩ = some (.int .i64 0) := (blk_cell BK185.out 3).trans rfl; have hfz34_0 := blk_frozen BK185.out 0; have hfz34_1 := blk_frozen BK185.out 1; have hfz34_2 := blk_frozen BK185.out 2; have hfz34_3 := blk_frozen BK185.out 3))
                (try simp only [Act.put, List.setIfInBounds_toArray, List.set_cons_zero, List.set_cons_succ])
                go_cut [39] (fun v39 wc => ∃ (kq : Nat) (x39_27 : Bool), v39 = .bool x39_27 ∧ Aside0 (supercargoref22_Wrong.j0 kq x39_27 ((rd_T31 l1 a2).f0) ((rd_T31 l1 a2).f1) ((rd_T31 l1 a2).f2) ((rd_T31 l1 a2).f3) ((rd_T31 l1 (ji18)).f0) ((rd_T31 l1 (ji18)).f1) ((rd_T31 l1 (ji18)).f2) ((rd_T31 l1 (ji18)).f3) = some r) ∧ Aside0 (kq ≤ k) ∧ Aside0 (wc.heap[gb182]? = some (.cells #[.string ((rd_T31 l1 a2).f0), .string ((rd_T31 l1 a2).f1), .int .i64 ((rd_T31 l1 a2).f2), .int .i64 ((rd_T31 l1 a2).f3)] 31 (0, 0))) ∧ Aside0 (wc.heap[gb185]? = some (.cells #[.string ((rd_T31 l1 (ji18)).f0), .string ((rd_T31 l1 (ji18)).f1), .int .i64 ((rd_T31 l1 (ji18)).f2), .int .i64 ((rd_T31 l1 (ji18)).f3)] 31 (0, 0))) ∧ Aside0 (Below w.heap.size w wc))
                case first =>
                  have H := HC28.out
                  clear HC28
                  by_cases c35 : ((rd_T31 l1 (ji18)).f2) = 0
                  · rw [if_pos c35] at H
                    have c35b0 : (((rd_T31 l1 (ji18)).f2) == 0) = true := beq_iff_eq.mpr c35
                    have c35b1 : (((rd_T31 l1 (ji18)).f2) != 0) = false := bne_eq_false_iff_eq.mpr c35
                    clear c35
                    (first | rw [c35b0] | (simp only [i64_w, i32_w]; rw [c35b0]) | skip)
                    have H' := Aside0.mk H
                    clear H
                    have hnb36 := NB185_182.out
                    have hnc36 := NB182_185.out
                    have hcz37_0 : w32.cell? ⟨gb185, 0, none⟩ = some (.string (⟨#[]⟩ : ByteArray)) := (blk_cell BK185.out 0).trans rfl
                    have hcz37_1 : w32.cell? ⟨gb185, 1, none⟩ = some (.string (⟨#[]⟩ : ByteArray)) := (blk_cell BK185.out 1).trans rfl
                    have hcz37_2 : w32.cell? ⟨gb185, 2, none⟩ = some (.int .i64 0) := (blk_cell BK185.out 2).trans rfl
                    have hcz37_3 : w32.cell? ⟨gb185, 3, none⟩ = some (.int .i64 0) := (blk_cell BK185.out 3).trans rfl
                    have hfz37_0 := blk_frozen BK185.out 0
                    have hfz37_1 := blk_frozen BK185.out 1
                    have hfz37_2 := blk_frozen BK185.out 2
                    have hfz37_3 := blk_frozen BK185.out 3
                    have hcz38_0 : w32.cell? ⟨gb182, 0, none⟩ = some (.string ((rd_T31 l1 a2).f0)) := (blk_cell BK182.out 0).trans rfl
                    have hcz38_1 : w32.cell? ⟨gb182, 1, none⟩ = some (.string ((rd_T31 l1 a2).f1)) := (blk_cell BK182.out 1).trans rfl
                    have hcz38_2 : w32.cell? ⟨gb182, 2, none⟩ = some (.int .i64 ((rd_T31 l1 a2).f2)) := (blk_cell BK182.out 2).trans rfl
                    have hcz38_3 : w32.cell? ⟨gb182, 3, none⟩ = some (.int .i64 ((rd_T31 l1 a2).f3)) := (blk_cell BK182.out 3).trans rfl
                    have hfz38_0 := blk_frozen BK182.out 0
                    have hfz38_1 := blk_frozen BK182.out 1
                    have hfz38_2 := blk_frozen BK182.out 2
                    have hfz38_3 := blk_frozen BK182.out 3
                    go_wp2
                    go_meet
                    case rel => exact ⟨_, ((((rd_T31 l1 a2).f0).toList != ((rd_T31 l1 (ji18)).f1).toList)), (by first | rfl | (simp; done) | (simp only [← hji18] <;> (first | rfl | simp)) | (simp [*]; done)), H', ⟨by first | omega | exact Nat.le_refl _⟩, ⟨by (with_reducible repeat (first | refine blk_drewN ?_ _ | refine blk_drew ?_ | refine blk_alloc ?_ _)); refine blk_far ?_ NB182_185.out _; (with_reducible repeat (first | refine blk_drewN ?_ _ | refine blk_drew ?_ | refine blk_alloc ?_ _)); refine blk_far ?_ NB182_185.out _; (with_reducible repeat (first | refine blk_drewN ?_ _ | refine blk_drew ?_ | refine blk_alloc ?_ _)); refine blk_far ?_ NB182_185.out _; (with_reducible repeat (first | refine blk_drewN ?_ _ | refine blk_drew ?_ | refine blk_alloc ?_ _)); refine blk_far ?_ NB182_185.out _; (with_reducible repeat (first | refine blk_drewN ?_ _ | refine blk_drew ?_ | refine blk_alloc ?_ _)); exact BK182.out⟩, ⟨by (with_reducible repeat (first | refine blk_drewN ?_ _ | refine blk_drew ?_ | refine blk_alloc ?_ _)); refine blk_put (cs := #[.string ((rd_T31 l1 (ji18)).f0), .string ((rd_T31 l1 (ji18)).f1), .int .i64 ((rd_T31 l1 (ji18)).f2), .int .i64 0]) ?_ 3 _ rfl; (with_reducible repeat (first | refine blk_drewN ?_ _ | refine blk_drew ?_ | refine blk_alloc ?_ _)); refine blk_put (cs := #[.string ((rd_T31 l1 (ji18)).f0), .string ((rd_T31 l1 (ji18)).f1), .int .i64 0, .int .i64 0]) ?_ 2 _ rfl; (with_reducible repeat (first | refine blk_drewN ?_ _ | refine blk_drew ?_ | refine blk_alloc ?_ _)); refine blk_put (cs := #[.string ((rd_T31 l1 (ji18)).f0), .string (⟨#[]⟩ : ByteArray), .int .i64 0, .int .i64 0]) ?_ 1 _ rfl; (with_reducible repeat (first | refine blk_drewN ?_ _ | refine blk_drew ?_ | refine blk_alloc ?_ _)); refine blk_put (cs := #[.string (⟨#[]⟩ : ByteArray), .string (⟨#[]⟩ : ByteArray), .int .i64 0, .int .i64 0]) ?_ 0 _ rfl; (with_reducible repeat (first | refine blk_drewN ?_ _ | refine blk_drew ?_ | refine blk_alloc ?_ _)); exact BK185.out⟩, ⟨by repeat (first | (with_reducible first | exact HB.out | apply below_alloc | apply pw_below_drewN | apply below_drew1 | refine below_set ?_ GE182.out | refine below_set ?_ GE185.out) | exact HB.out)⟩⟩
                  · rw [if_neg c35] at H
                    have c35b0 : (((rd_T31 l1 (ji18)).f2) == 0) = false := beq_eq_false_iff_ne.mpr c35
                    have c35b1 : (((rd_T31 l1 (ji18)).f2) != 0) = true := bne_iff_ne.mpr c35
                    (first | rw [c35b0] | (simp only [i64_w, i32_w]; rw [c35b0]) | skip)
                    have H' := Aside0.mk H
                    clear H
                    have hnb39 := NB185_182.out
                    have hnc39 := NB182_185.out
                    have hcz40_0 : w32.cell? ⟨gb185, 0, none⟩ = some (.string (⟨#[]⟩ : ByteArray)) := (blk_cell BK185.out 0).trans rfl
                    have hcz40_1 : w32.cell? ⟨gb185, 1, none⟩ = some (.string (⟨#[]⟩ : ByteArray)) := (blk_cell BK185.out 1).trans rfl
                    have hcz40_2 : w32.cell? ⟨gb185, 2, none⟩ = some (.int .i64 0) := (blk_cell BK185.out 2).trans rfl
                    have hcz40_3 : w32.cell? ⟨gb185, 3, none⟩ = some (.int .i64 0) := (blk_cell BK185.out 3).trans rfl
                    have hfz40_0 := blk_frozen BK185.out 0
                    have hfz40_1 := blk_frozen BK185.out 1
                    have hfz40_2 := blk_frozen BK185.out 2
                    have hfz40_3 := blk_frozen BK185.out 3
                    go_wp2
                    go_meet
                    case rel => exact ⟨_, (false), (by first | rfl | (simp; done) | (simp [*]; done)), H', ⟨by first | omega | exact Nat.le_refl _⟩, ⟨by (with_reducible repeat (first | refine blk_drewN ?_ _ | refine blk_drew ?_ | refine blk_alloc ?_ _)); refine blk_far ?_ NB182_185.out _; (with_reducible repeat (first | refine blk_drewN ?_ _ | refine blk_drew ?_ | refine blk_alloc ?_ _)); refine blk_far ?_ NB182_185.out _; (with_reducible repeat (first | refine blk_drewN ?_ _ | refine blk_drew ?_ | refine blk_alloc ?_ _)); refine blk_far ?_ NB182_185.out _; (with_reducible repeat (first | refine blk_drewN ?_ _ | refine blk_drew ?_ | refine blk_alloc ?_ _)); refine blk_far ?_ NB182_185.out _; (with_reducible repeat (first | refine blk_drewN ?_ _ | refine blk_drew ?_ | refine blk_alloc ?_ _)); exact BK182.out⟩, ⟨by (with_reducible repeat (first | refine blk_drewN ?_ _ | refine blk_drew ?_ | refine blk_alloc ?_ _)); refine blk_put (cs := #[.string ((rd_T31 l1 (ji18)).f0), .string ((rd_T31 l1 (ji18)).f1), .int .i64 ((rd_T31 l1 (ji18)).f2), .int .i64 0]) ?_ 3 _ rfl; (with_reducible repeat (first | refine blk_drewN ?_ _ | refine blk_drew ?_ | refine blk_alloc ?_ _)); refine blk_put (cs := #[.string ((rd_T31 l1 (ji18)).f0), .string ((rd_T31 l1 (ji18)).f1), .int .i64 0, .int .i64 0]) ?_ 2 _ rfl; (with_reducible repeat (first | refine blk_drewN ?_ _ | refine blk_drew ?_ | refine blk_alloc ?_ _)); refine blk_put (cs := #[.string ((rd_T31 l1 (ji18)).f0), .string (⟨#[]⟩ : ByteArray), .int .i64 0, .int .i64 0]) ?_ 1 _ rfl; (with_reducible repeat (first | refine blk_drewN ?_ _ | refine blk_drew ?_ | refine blk_alloc ?_ _)); refine blk_put (cs := #[.string (⟨#[]⟩ : ByteArray), .string (⟨#[]⟩ : ByteArray), .int .i64 0, .int .i64 0]) ?_ 0 _ rfl; (with_reducible repeat (first | refine blk_drewN ?_ _ | refine blk_drew ?_ | refine blk_alloc ?_ _)); exact BK185.out⟩, ⟨by repeat (first | (with_reducible first | exact HB.out | apply below_alloc | apply pw_below_drewN | apply below_drew1 | refine below_set ?_ GE182.out | refine below_set ?_ GE185.out) | exact HB.out)⟩⟩
                case rest =>
                  clear HC28
                  try clear c1
                  try clear p1
                  try clear q1
                  try clear hx1
                  try clear c2
                  try clear p2
                  try clear c3
                  try clear c4
                  try clear c4b0
                  try clear c5
                  try clear c5b0
                  try clear p6
                  try clear c7
                  try clear c8
                  try clear c8b0
                  try clear c8b1
                  try clear c9
                  try clear c9b0
                  try clear c9b1
                  try clear p18
                  try clear q18
                  try clear hx18
                  try clear c19
                  try clear c19b0
                  try clear c20
                  try clear c20b0
                  try clear c21
                  try clear c21b0
                  try clear c21b1
                  try clear c26
                  try clear c27
                  try clear c33
                  try clear c35
                  try clear c35b0
                  try clear c35b1
                  try clear c36
                  try clear c39
                  try clear hcz11_0
                  try clear hcz11_1
                  try clear hcz11_2
                  try clear hcz11_3
                  try clear hcz13_0
                  try clear hcz13_1
                  try clear hcz13_2
                  try clear hcz13_3
                  try clear hcz15_0
                  try clear hcz15_1
                  try clear hcz15_2
                  try clear hcz15_3
                  try clear hcz17_0
                  try clear hcz17_1
                  try clear hcz17_2
                  try clear hcz17_3
                  try clear hcz23_0
                  try clear hcz23_1
                  try clear hcz23_2
                  try clear hcz23_3
                  try clear hcz27_0
                  try clear hcz27_1
                  try clear hcz27_2
                  try clear hcz27_3
                  try clear hcz30_0
                  try clear hcz30_1
                  try clear hcz30_2
                  try clear hcz30_3
                  try clear hcz34_0
                  try clear hcz34_1
                  try clear hcz34_2
                  try clear hcz34_3
                  try clear hcz37_0
                  try clear hcz37_1
                  try clear hcz37_2
                  try clear hcz37_3
                  try clear hcz38_0
                  try clear hcz38_1
                  try clear hcz38_2
                  try clear hcz38_3
                  try clear hcz40_0
                  try clear hcz40_1
                  try clear hcz40_2
                  try clear hcz40_3
                  try clear hfz11_0
                  try clear hfz11_1
                  try clear hfz11_2
                  try clear hfz11_3
                  try clear hfz13_0
                  try clear hfz13_1
                  try clear hfz13_2
                  try clear hfz13_3
                  try clear hfz15_0
                  try clear hfz15_1
                  try clear hfz15_2
                  try clear hfz15_3
                  try clear hfz17_0
                  try clear hfz17_1
                  try clear hfz17_2
                  try clear hfz17_3
                  try clear hfz23_0
                  try clear hfz23_1
                  try clear hfz23_2
                  try clear hfz23_3
                  try clear hfz27_0
                  try clear hfz27_1
                  try clear hfz27_2
                  try clear hfz27_3
                  try clear hfz30_0
                  try clear hfz30_1
                  try clear hfz30_2
                  try clear hfz30_3
                  try clear hfz34_0
                  try clear hfz34_1
                  try clear hfz34_2
                  try clear hfz34_3
                  try clear hfz37_0
                  try clear hfz37_1
                  try clear hfz37_2
                  try clear hfz37_3
                  try clear hfz38_0
                  try clear hfz38_1
                  try clear hfz38_2
                  try clear hfz38_3
                  try clear hfz40_0
                  try clear hfz40_1
                  try clear hfz40_2
                  try clear hfz40_3
                  try clear hx181_0
                  try clear hx181_1
                  try clear hx181_2
                  try clear hx181_3
                  try clear hx184_0
                  try clear hx184_1
                  try clear hx184_2
                  try clear hx184_3
                  try clear p181
                  try clear p184
                  try clear q181
                  try clear q184
                  obtain ⟨kq, x39_27, rfl, HA, HJ27, BK182, BK185, HB⟩ := hcut
                  cases kq with
                  | zero => exact absurd HA.out (by simp [supercargoref22_Wrong.j0])
                  | succ kj27 =>
                    have H := HA.out
                    clear HA
                    simp only [supercargoref22_Wrong.j0] at H
                    by_cases c41 : x39_27 = true
                    · subst c41
                      have H1 : (some 8) = some r := by rw [if_pos rfl] at H; exact H
                      clear H
                      have H := H1
                      clear H1
                      obtain rfl := Option.some.inj H
                      go_wp2
                      go_ret
                      exact ⟨by first | rfl | (simp [errW_none, errW_some] <;> rfl) | (simp only [← hji18]; first | rfl | (simp [errW_none, errW_some] <;> rfl)) | (simp [*, errW_none, errW_some] <;> rfl), by repeat (first | (with_reducible first | exact HB.out | apply below_alloc | apply pw_below_drewN | apply below_drew1 | refine below_set ?_ GE182.out | refine below_set ?_ GE185.out) | exact HB.out)⟩
                    · replace c41 := Bool.eq_false_iff.mpr c41
                      subst c41
                      have H1 : (if ((rd_T31 l1 a2).f3) < ((rd_T31 l1 (ji18)).f3) then (some 6) else (some 0)) = some r := by rw [if_neg (show ¬ (false = true) by decide)] at H; exact H
                      clear H
                      have H := H1
                      clear H1
                      by_cases c42 : ((rd_T31 l1 a2).f3) < ((rd_T31 l1 (ji18)).f3)
                      · rw [if_pos c42] at H
                        have c42b0 : decide (((rd_T31 l1 a2).f3) < ((rd_T31 l1 (ji18)).f3)) = true := decide_eq_true c42
                        clear c42
                        obtain rfl := Option.some.inj H
                        have hnb43 := NB182_185.out
                        have hnc43 := NB185_182.out
                        have hcz44_0 : wc.cell? ⟨gb182, 0, none⟩ = some (.string ((rd_T31 l1 a2).f0)) := (blk_cell BK182.out 0).trans rfl
                        have hcz44_1 : wc.cell? ⟨gb182, 1, none⟩ = some (.string ((rd_T31 l1 a2).f1)) := (blk_cell BK182.out 1).trans rfl
                        have hcz44_2 : wc.cell? ⟨gb182, 2, none⟩ = some (.int .i64 ((rd_T31 l1 a2).f2)) := (blk_cell BK182.out 2).trans rfl
                        have hcz44_3 : wc.cell? ⟨gb182, 3, none⟩ = some (.int .i64 ((rd_T31 l1 a2).f3)) := (blk_cell BK182.out 3).trans rfl
                        have hfz44_0 := blk_frozen BK182.out 0
                        have hfz44_1 := blk_frozen BK182.out 1
                        have hfz44_2 := blk_frozen BK182.out 2
                        have hfz44_3 := blk_frozen BK182.out 3
                        have hcz45_0 : wc.cell? ⟨gb185, 0, none⟩ = some (.string ((rd_T31 l1 (ji18)).f0)) := (blk_cell BK185.out 0).trans rfl
                        have hcz45_1 : wc.cell? ⟨gb185, 1, none⟩ = some (.string ((rd_T31 l1 (ji18)).f1)) := (blk_cell BK185.out 1).trans rfl
                        have hcz45_2 : wc.cell? ⟨gb185, 2, none⟩ = some (.int .i64 ((rd_T31 l1 (ji18)).f2)) := (blk_cell BK185.out 2).trans rfl
                        have hcz45_3 : wc.cell? ⟨gb185, 3, none⟩ = some (.int .i64 ((rd_T31 l1 (ji18)).f3)) := (blk_cell BK185.out 3).trans rfl
                        have hfz45_0 := blk_frozen BK185.out 0
                        have hfz45_1 := blk_frozen BK185.out 1
                        have hfz45_2 := blk_frozen BK185.out 2
                        have hfz45_3 := blk_frozen BK185.out 3
                        go_wp2
                        go_ret
                        exact ⟨by first | rfl | (simp [errW_none, errW_some] <;> rfl) | (simp only [← hji18]; first | rfl | (simp [errW_none, errW_some] <;> rfl)) | (simp [*, errW_none, errW_some] <;> rfl), by repeat (first | (with_reducible first | exact HB.out | apply below_alloc | apply pw_below_drewN | apply below_drew1 | refine below_set ?_ GE182.out | refine below_set ?_ GE185.out) | exact HB.out)⟩
                      · rw [if_neg c42] at H
                        have c42b0 : decide (((rd_T31 l1 a2).f3) < ((rd_T31 l1 (ji18)).f3)) = false := decide_eq_false c42
                        clear c42
                        obtain rfl := Option.some.inj H
                        have hnb46 := NB182_185.out
                        have hnc46 := NB185_182.out
                        have hcz47_0 : wc.cell? ⟨gb182, 0, none⟩ = some (.string ((rd_T31 l1 a2).f0)) := (blk_cell BK182.out 0).trans rfl
                        have hcz47_1 : wc.cell? ⟨gb182, 1, none⟩ = some (.string ((rd_T31 l1 a2).f1)) := (blk_cell BK182.out 1).trans rfl
                        have hcz47_2 : wc.cell? ⟨gb182, 2, none⟩ = some (.int .i64 ((rd_T31 l1 a2).f2)) := (blk_cell BK182.out 2).trans rfl
                        have hcz47_3 : wc.cell? ⟨gb182, 3, none⟩ = some (.int .i64 ((rd_T31 l1 a2).f3)) := (blk_cell BK182.out 3).trans rfl
                        have hfz47_0 := blk_frozen BK182.out 0
                        have hfz47_1 := blk_frozen BK182.out 1
                        have hfz47_2 := blk_frozen BK182.out 2
                        have hfz47_3 := blk_frozen BK182.out 3
                        have hcz48_0 : wc.cell? ⟨gb185, 0, none⟩ = some (.string ((rd_T31 l1 (ji18)).f0)) := (blk_cell BK185.out 0).trans rfl
                        have hcz48_1 : wc.cell? ⟨gb185, 1, none⟩ = some (.string ((rd_T31 l1 (ji18)).f1)) := (blk_cell BK185.out 1).trans rfl
                        have hcz48_2 : wc.cell? ⟨gb185, 2, none⟩ = some (.int .i64 ((rd_T31 l1 (ji18)).f2)) := (blk_cell BK185.out 2).trans rfl
                        have hcz48_3 : wc.cell? ⟨gb185, 3, none⟩ = some (.int .i64 ((rd_T31 l1 (ji18)).f3)) := (blk_cell BK185.out 3).trans rfl
                        have hfz48_0 := blk_frozen BK185.out 0
                        have hfz48_1 := blk_frozen BK185.out 1
                        have hfz48_2 := blk_frozen BK185.out 2
                        have hfz48_3 := blk_frozen BK185.out 3
                        go_wp2
                        go_ret
                        exact ⟨by first | rfl | (simp [errW_none, errW_some] <;> rfl) | (simp only [← hji18]; first | rfl | (simp [errW_none, errW_some] <;> rfl)) | (simp [*, errW_none, errW_some] <;> rfl), by repeat (first | (with_reducible first | exact HB.out | apply below_alloc | apply pw_below_drewN | apply below_drew1 | refine below_set ?_ GE182.out | refine below_set ?_ GE185.out) | exact HB.out)⟩
            · rw [if_neg c20] at H
              exact absurd H (by simp)
          · rw [if_neg c19] at H
            exact absurd H (by simp)
      · replace c7 := Bool.eq_false_iff.mpr c7
        subst c7
        have H1 : (some 2) = some r := by rw [if_neg (show ¬ (false = true) by decide)] at H; exact H
        clear H
        have H := H1
        clear H1
        obtain rfl := Option.some.inj H
        have p181 : 0 ≤ (a2 : Int) := of_decide_eq_true (by first | (with_reducible assumption) | assumption)
        have q181 : a2 < (l1.length : Int) := of_decide_eq_true (by first | (with_reducible assumption) | assumption)
        obtain ⟨ad181, e181, hx181_0, hx181_1, hx181_2, hx181_3⟩ := at_T31 HR1.out a2 p181 q181
        cases e181
        replace p181 := eq_true p181
        replace q181 := eq_true q181
        go_enter Try.func20, Try.ntmps20
        go_wp2_with (first | ((with_reducible refine gate_dst (N := 7) rfl ?_); refine box_event ?hg (N := 7) ?hd (cs := #[.string (⟨#[]⟩ : ByteArray), .string (⟨#[]⟩ : ByteArray), .int .i64 0, .int .i64 0]) (t := 31) ?hr ?_; (case hd => rfl); (case hg => rfl); (case hr => first | (go_simp; done) | (go_simp; rfl)); intro gb182 hg w49 hbox hb; have n0_ := Aside0.mk (below_step (by repeat (first | (with_reducible first | exact HB.out | apply below_alloc | apply pw_below_drewN | apply below_drew1) | exact HB.out)) hb); have n1_ := Aside0.mk (hbox); have n2_ := Aside0.mk ((by rw [hg]; exact (below_size (by repeat (first | (with_reducible first | exact HB.out | apply below_alloc | apply pw_below_drewN | apply below_drew1) | exact HB.out))) : w.heap.size ≤ gb182)); have n3_ := Aside0.mk ((by rw [hg]; exact (below_size (by repeat (first | (with_reducible first | exact HB.out | apply below_alloc | apply pw_below_drewN | apply below_drew1) | exact HB.out))) : w.heap.size ≤ gb182)); clear HB; have HB := n0_; have BK182 := n1_; have GW182 := n2_; have GE182 := n3_; clear n0_ n1_ n2_ n3_; clear hb hbox hg; have hcz50_0 : w49.cell? ⟨gb182, 0, none⟩ = some (.string (⟨#[]⟩ : ByteArray)) := (blk_cell BK182.out 0).trans rfl; have hcz50_1 : w49.cell? ⟨gb182, 1, none⟩ = some (.string (⟨#[]⟩ : ByteArray)) := (blk_cell BK182.out 1).trans rfl; have hcz50_2 : w49.cell? ⟨gb182, 2, none⟩ = some (.int .i64 0) := (blk_cell BK182.out 2).trans rfl; have hcz50_3 : w49.cell? ⟨gb182, 3, none⟩ = some (.int .i64 0) := (blk_cell BK182.out 3).trans rfl; have hfz50_0 := blk_frozen BK182.out 0; have hfz50_1 := blk_frozen BK182.out 1; have hfz50_2 := blk_frozen BK182.out 2; have hfz50_3 := blk_frozen BK182.out 3) | ((with_reducible refine gate_callee (f := 27) rfl ?_); refine goesL_ (some 14) rfl rfl Try.func27 (by kernel_rfl) rfl #[.agg #[.string ((rd_T31 l1 a2).f0), .string ((rd_T31 l1 a2).f1), .int .i64 ((rd_T31 l1 a2).f2), .int .i64 ((rd_T31 l1 a2).f3)]] rfl (by (try simp only [List.map_toArray, List.map_cons, List.map_nil]); first | done | rfl | (simp only [List.length_drop, List.length_take]; rfl)) ?_; (with_reducible refine (supercargoref22_Right.calls k ((rd_T31 l1 a2).f0) ((rd_T31 l1 a2).f1) ((rd_T31 l1 a2).f2) ((rd_T31 l1 a2).f3) false _ A6.out).mono ?_); rintro e w51 ⟨rfl, hb⟩; refine ⟨_, rfl, ?_⟩; have n0_ := Aside0.mk (blk_below (g := gb182) (o := .cells #[.string ((rd_T31 l1 a2).f0), .string ((rd_T31 l1 a2).f1), .int .i64 ((rd_T31 l1 a2).f2), .int .i64 ((rd_T31 l1 a2).f3)] 31 (0, 0)) (by (with_reducible repeat (first | refine blk_drewN ?_ _ | refine blk_drew ?_ | refine blk_alloc ?_ _)); refine blk_put (cs := #[.string ((rd_T31 l1 a2).f0), .string ((rd_T31 l1 a2).f1), .int .i64 ((rd_T31 l1 a2).f2), .int .i64 0]) ?_ 3 _ rfl; (with_reducible repeat (first | refine blk_drewN ?_ _ | refine blk_drew ?_ | refine blk_alloc ?_ _)); refine blk_put (cs := #[.string ((rd_T31 l1 a2).f0), .string ((rd_T31 l1 a2).f1), .int .i64 0, .int .i64 0]) ?_ 2 _ rfl; (with_reducible repeat (first | refine blk_drewN ?_ _ | refine blk_drew ?_ | refine blk_alloc ?_ _)); refine blk_put (cs := #[.string ((rd_T31 l1 a2).f0), .string (⟨#[]⟩ : ByteArray), .int .i64 0, .int .i64 0]) ?_ 1 _ rfl; (with_reducible repeat (first | refine blk_drewN ?_ _ | refine blk_drew ?_ | refine blk_alloc ?_ _)); refine blk_put (cs := #[.string (⟨#[]⟩ : ByteArray), .string (⟨#[]⟩ : ByteArray), .int .i64 0, .int .i64 0]) ?_ 0 _ rfl; (with_reducible repeat (first | refine blk_drewN ?_ _ | refine blk_drew ?_ | refine blk_alloc ?_ _)); exact BK182.out) hb); have n1_ := Aside0.mk (below_step (by repeat (first | (with_reducible first | exact HB.out | apply below_alloc | apply pw_below_drewN | apply below_drew1 | refine below_set ?_ GE182.out) | exact HB.out)) hb); clear BK182; clear HB; have BK182 := n0_; have HB := n1_; clear n0_ n1_; (try clear hb); (try clear hb2); (try clear hk); (try clear hi)))
        go_ret
        exact ⟨by first | rfl | (simp [errW_none, errW_some] <;> rfl) | (simp [*, errW_none, errW_some] <;> rfl), by repeat (first | (with_reducible first | exact HB.out | apply below_alloc | apply pw_below_drewN | apply below_drew1 | refine below_set ?_ GE182.out) | exact HB.out)⟩
    · rw [if_neg c5] at H
      exact absurd H (by simp)
  · rw [if_neg c4] at H
    exact absurd H (by simp)

/-! ### supercargoref22_Check: function 15 -/
def supercargoref22_Check.l0 : Nat → ByteArray → List (S31) → Int → Option (ByteArray × Int × Int)
  | 0, _, _, _ => none
  | k + 1, x0, x1, x7 => if x7 < (x1.length : Int) then ((supercargoref22_Wrong.f k x0 x1 x7).bind fun t187 => (if t187 = 0 then (supercargoref22_Check.l0 k x0 x1 (wrap64 (x7 + 1))) else (some ((⟨#[]⟩ : ByteArray), x7, t187)))) else (if (x1.length : Int) = 0 then (some (x0, 0, 0)) else (if 0 ≤ (wrap64 ((x1.length : Int) - 1)) then (if (wrap64 ((x1.length : Int) - 1)) < (x1.length : Int) then (some ((rd_T31 x1 (wrap64 ((x1.length : Int) - 1))).f1, (x1.length : Int), 0)) else (none)) else (none)))
def supercargoref22_Check.f (k : Nat) (a0 : ByteArray) (l1 : List (S31)) : Option (ByteArray × Int × Int) := (supercargoref06_Name.f k a0).bind fun t186 => (if t186 = true then (supercargoref22_Check.l0 k a0 l1 0) else (some ((⟨#[]⟩ : ByteArray), 0, 1)))
theorem supercargoref22_Check.mono_l : ∀ k, (∀ y0 y1 y2, LeO (supercargoref22_Check.l0 k y0 y1 y2) (supercargoref22_Check.l0 (k + 1) y0 y1 y2))
  | 0 => fun _ _ _ r h => by simp [supercargoref22_Check.l0] at h
  | k + 1 => by
    have ih0 := supercargoref22_Check.mono_l k
    · intro y0 y1 y2
      unfold supercargoref22_Check.l0
      repeat' first
      | (with_reducible exact ih0 _ _ _)
      | (with_reducible exact supercargoref06_Name.mono _ _)
      | (with_reducible exact supercargoref22_Wrong.mono _ _ _ _)
      | (with_reducible exact LeO.refl _)
      | (with_reducible exact LeO.none _)
      | (with_reducible refine LeO.ite ?_ ?_)
      | (with_reducible refine LeO.bind ?_ (fun _ => ?_))
      | exact ih0 _ _ _
      | exact supercargoref06_Name.mono _ _
      | exact supercargoref22_Wrong.mono _ _ _ _
      | exact LeO.none _
      | refine LeO.ite ?_ ?_
      | refine LeO.bind ?_ (fun _ => ?_)
theorem supercargoref22_Check.mono : ∀ a0 a1 k, LeO (supercargoref22_Check.f k a0 a1) (supercargoref22_Check.f (k + 1) a0 a1) := by
  intro a0 a1 k
  have ih0 := supercargoref22_Check.mono_l k
  unfold supercargoref22_Check.f
  repeat' first
      | (with_reducible exact ih0 _ _ _)
      | (with_reducible exact supercargoref06_Name.mono _ _)
      | (with_reducible exact supercargoref22_Wrong.mono _ _ _ _)
      | (with_reducible exact LeO.refl _)
      | (with_reducible exact LeO.none _)
      | (with_reducible refine LeO.ite ?_ ?_)
      | (with_reducible refine LeO.bind ?_ (fun _ => ?_))
      | exact ih0 _ _ _
      | exact supercargoref06_Name.mono _ _
      | exact supercargoref22_Wrong.mono _ _ _ _
      | exact LeO.none _
      | refine LeO.ite ?_ ?_
      | refine LeO.bind ?_ (fun _ => ?_)
set_option maxHeartbeats 8000000 in
set_option maxRecDepth 100000 in
theorem supercargoref22_Check.calls (k : Nat) (a0 : ByteArray) (A1 : Option Addr) (c1 : Nat) (l1 : List (S31)) (r1 : ByteArray) (r2 : Int) (r3 : Int) (w : World) (hr1 : Kd.C k31 w A1 l1.length l1) (hc1 : l1.length ≤ c1) (h : supercargoref22_Check.f k a0 l1 = some (r1, r2, r3)) :
    Calls Try.prog 15 #[.string a0, .slice A1 l1.length c1] w fun e w' => e = .returned (.tuple #[.string r1, .int .i64 r2, .int .i64 r3]) ∧ Below w.heap.size w w' := by
  have HR1 := Aside0.mk hr1
  have HC1 := Aside0.mk hc1
  clear hr1 hc1
  have HB := Aside0.mk (Below.refl w.heap.size w)
  have H : ((supercargoref06_Name.f k a0).bind fun t186 => (if t186 = true then (supercargoref22_Check.l0 k a0 l1 0) else (some ((⟨#[]⟩ : ByteArray), 0, 1)))) = some (r1, r2, r3) := h
  clear h
  replace H := Option.bind_eq_some_iff.mp H
  obtain ⟨t186, A30, H⟩ := H
  replace H : (if t186 = true then (supercargoref22_Check.l0 k a0 l1 0) else (some ((⟨#[]⟩ : ByteArray), 0, 1))) = some (r1, r2, r3) := H
  have A3 := Aside0.mk A30
  clear A30
  by_cases c4 : t186 = true
  · subst c4
    have H1 : (supercargoref22_Check.l0 k a0 l1 0) = some (r1, r2, r3) := by rw [if_pos rfl] at H; exact H
    clear H
    have H := H1
    clear H1
    have H' := Aside0.mk H
    clear H
    go_enter Try.func15, Try.ntmps15
    go_wp2_with (first | ((with_reducible refine gate_callee (f := 14) rfl ?_); refine goesL_ (some 10) rfl rfl Try.func14 (by kernel_rfl) rfl #[.string a0] rfl (by (try simp only [List.map_toArray, List.map_cons, List.map_nil]); first | done | rfl | (simp only [List.length_drop, List.length_take]; rfl)) ?_; (with_reducible refine (supercargoref06_Name.calls k a0 true _ A3.out).mono ?_); rintro e w' ⟨rfl, ⟨nd, rfl⟩⟩; refine ⟨_, rfl, ?_⟩))
    go_loopg [7] k (fun kq v7 w' => ∃ (x7_1 : Int), v7 = .int .i64 x7_1 ∧ Aside0 (supercargoref22_Check.l0 kq a0 l1 x7_1 = some (r1, r2, r3)) ∧ Aside0 (kq ≤ k) ∧ Aside0 (Below w.heap.size w w'))
    case atStart => exact ⟨(0), (by first | rfl | (simp; done) | (simp [*]; done)), H', ⟨Nat.le_refl _⟩, ⟨by repeat (first | (with_reducible first | exact HB.out | apply below_alloc | apply pw_below_drewN | apply below_drew1) | exact HB.out)⟩⟩
    case round =>
      clear H'
      try clear c1
      try clear p2
      try clear c4
      obtain ⟨x7_1, rfl, HA, HK1, HB⟩ := hrel
      cases gk with
      | zero => exact absurd HA.out (by simp [supercargoref22_Check.l0])
      | succ k1 =>
        have H := HA.out
        clear HA
        simp only [supercargoref22_Check.l0] at H
        by_cases c5 : x7_1 < (l1.length : Int)
        · rw [if_pos c5] at H
          have c5b0 : decide (x7_1 < (l1.length : Int)) = true := decide_eq_true c5
          clear c5
          replace H := Option.bind_eq_some_iff.mp H
          obtain ⟨t187, A60, H⟩ := H
          replace H : (if t187 = 0 then (supercargoref22_Check.l0 k1 a0 l1 (wrap64 (x7_1 + 1))) else (some ((⟨#[]⟩ : ByteArray), x7_1, t187))) = some (r1, r2, r3) := H
          have A6 := Aside0.mk A60
          clear A60
          by_cases c7 : t187 = 0
          · rw [if_pos c7] at H
            have c7b0 : (t187 == 0) = true := beq_iff_eq.mpr c7
            have c7b1 : (t187 != 0) = false := bne_eq_false_iff_eq.mpr c7
            clear c7
            have H' := Aside0.mk H
            clear H
            go_wp2_with (first | ((with_reducible refine gate_callee (f := 20) rfl ?_); refine goesL_ (some 21) rfl rfl Try.func20 (by kernel_rfl) rfl #[.string a0, .slice A1 l1.length c1, .int .i64 x7_1] rfl (by (try simp only [List.map_toArray, List.map_cons, List.map_nil]); first | done | rfl | (simp only [List.length_drop, List.length_take]; rfl)) ?_; (with_reducible refine (supercargoref22_Wrong.calls k1 a0 _ _ l1 x7_1 t187 _ ?side1 ?side2 A6.out).mono ?_); (case side1 => repeat (first | exact (Kd.C_below HR1.out HB.out) | (with_reducible refine Kd.C_alloc ?_ _) | (with_reducible refine Kd.C_drewN ?_ _) | (with_reducible refine Kd.C_drew ?_))); (case side2 => exact HC1.out); rintro e w8 ⟨rfl, hb⟩; refine ⟨_, rfl, ?_⟩; have n0_ := Aside0.mk (below_step (by repeat (first | (with_reducible first | exact HB.out | apply below_alloc | apply pw_below_drewN | apply below_drew1) | exact HB.out)) hb); clear HB; have HB := n0_; clear n0_; (try clear hb); (try clear hb2); (try clear hk); (try clear hi)))
            go_roundg k1
            case measure => have := HK1.out; omega
            case rel => exact ⟨(wrap64 (x7_1 + 1)), (by first | rfl | (simp; done) | (simp [*]; done)), H', ⟨by have := HK1.out; omega⟩, ⟨by repeat (first | (with_reducible first | exact HB.out | apply below_alloc | apply pw_below_drewN | apply below_drew1) | exact HB.out)⟩⟩
          · rw [if_neg c7] at H
            have c7b0 : (t187 == 0) = false := beq_eq_false_iff_ne.mpr c7
            have c7b1 : (t187 != 0) = true := bne_iff_ne.mpr c7
            simp only [Option.some.injEq, Prod.mk.injEq] at H
            obtain ⟨rfl, rfl, rfl⟩ := H
            go_wp2_with (first | ((with_reducible refine gate_callee (f := 20) rfl ?_); refine goesL_ (some 21) rfl rfl Try.func20 (by kernel_rfl) rfl #[.string a0, .slice A1 l1.length c1, .int .i64 x7_1] rfl (by (try simp only [List.map_toArray, List.map_cons, List.map_nil]); first | done | rfl | (simp only [List.length_drop, List.length_take]; rfl)) ?_; (with_reducible refine (supercargoref22_Wrong.calls k1 a0 _ _ l1 x7_1 t187 _ ?side1 ?side2 A6.out).mono ?_); (case side1 => repeat (first | exact (Kd.C_below HR1.out HB.out) | (with_reducible refine Kd.C_alloc ?_ _) | (with_reducible refine Kd.C_drewN ?_ _) | (with_reducible refine Kd.C_drew ?_))); (case side2 => exact HC1.out); rintro e w9 ⟨rfl, hb⟩; refine ⟨_, rfl, ?_⟩; have n0_ := Aside0.mk (below_step (by repeat (first | (with_reducible first | exact HB.out | apply below_alloc | apply pw_below_drewN | apply below_drew1) | exact HB.out)) hb); clear HB; have HB := n0_; clear n0_; (try clear hb); (try clear hb2); (try clear hk); (try clear hi)))
            go_ret3
            exact ⟨by first | rfl | (simp [errW_none, errW_some] <;> rfl) | (simp [*, errW_none, errW_some] <;> rfl), by repeat (first | (with_reducible first | exact HB.out | apply below_alloc | apply pw_below_drewN | apply below_drew1) | exact HB.out)⟩
        · rw [if_neg c5] at H
          have c5b0 : decide (x7_1 < (l1.length : Int)) = false := decide_eq_false c5
          clear c5
          by_cases c10 : (l1.length : Int) = 0
          · rw [if_pos c10] at H
            have c10b0 : ((l1.length : Int) == 0) = true := beq_iff_eq.mpr c10
            have c10b1 : ((l1.length : Int) != 0) = false := bne_eq_false_iff_eq.mpr c10
            clear c10
            simp only [Option.some.injEq, Prod.mk.injEq] at H
            obtain ⟨rfl, rfl, rfl⟩ := H
            go_wp2
            go_ret3
            exact ⟨by first | rfl | (simp [errW_none, errW_some] <;> rfl) | (simp [*, errW_none, errW_some] <;> rfl), by repeat (first | (with_reducible first | exact HB.out | apply below_alloc | apply pw_below_drewN | apply below_drew1) | exact HB.out)⟩
          · rw [if_neg c10] at H
            have c10b0 : ((l1.length : Int) == 0) = false := beq_eq_false_iff_ne.mpr c10
            have c10b1 : ((l1.length : Int) != 0) = true := bne_iff_ne.mpr c10
            have c10b2 : ¬ (l1 = []) := fun h_ => c10 (by rw [h_]; rfl)
            obtain ⟨ji11, hji11⟩ : ∃ j_ : Int, (wrap64 ((l1.length : Int) - 1)) = j_ := ⟨_, rfl⟩
            replace H : (if 0 ≤ (ji11) then (if (ji11) < (l1.length : Int) then (some ((rd_T31 l1 (ji11)).f1, (l1.length : Int), 0)) else (none)) else (none)) = some (r1, r2, r3) := by first | (rw [hji11] at H; exact H) | (simp only [hji11] at H ⊢; exact H)
            have hji11w : (IntKind.i64.wrap ((l1.length : Int) - 1)) = ji11 := (i64_w _).trans hji11
            by_cases c12 : 0 ≤ (ji11)
            · rw [if_pos c12] at H
              have c12b0 : decide (0 ≤ (ji11)) = true := decide_eq_true c12
              clear c12
              by_cases c13 : (ji11) < (l1.length : Int)
              · rw [if_pos c13] at H
                have c13b0 : decide ((ji11) < (l1.length : Int)) = true := decide_eq_true c13
                clear c13
                simp only [Option.some.injEq, Prod.mk.injEq] at H
                obtain ⟨rfl, rfl, rfl⟩ := H
                have p188 : 0 ≤ ((ji11) : Int) := of_decide_eq_true (by first | (with_reducible assumption) | assumption)
                have q188 : (ji11) < (l1.length : Int) := of_decide_eq_true (by first | (with_reducible assumption) | assumption)
                obtain ⟨ad188, e188, hx188_0, hx188_1, hx188_2, hx188_3⟩ := at_T31 HR1.out (ji11) p188 q188
                cases e188
                replace hx188_0 := (HB.out.cell (World.block_lt_of_cell? w _ hx188_0)).trans hx188_0
                replace hx188_1 := (HB.out.cell (World.block_lt_of_cell? w _ hx188_1)).trans hx188_1
                replace hx188_2 := (HB.out.cell (World.block_lt_of_cell? w _ hx188_2)).trans hx188_2
                replace hx188_3 := (HB.out.cell (World.block_lt_of_cell? w _ hx188_3)).trans hx188_3
                replace p188 := eq_true p188
                replace q188 := eq_true q188
                go_wp2
                go_ret3
                exact ⟨by first | rfl | (simp [errW_none, errW_some] <;> rfl) | (simp only [← hji11]; first | rfl | (simp [errW_none, errW_some] <;> rfl)) | (simp [*, errW_none, errW_some] <;> rfl), by repeat (first | (with_reducible first | exact HB.out | apply below_alloc | apply pw_below_drewN | apply below_drew1) | exact HB.out)⟩
              · rw [if_neg c13] at H
                exact absurd H (by simp)
            · rw [if_neg c12] at H
              exact absurd H (by simp)
  · replace c4 := Bool.eq_false_iff.mpr c4
    subst c4
    have H1 : (some ((⟨#[]⟩ : ByteArray), 0, 1)) = some (r1, r2, r3) := by rw [if_neg (show ¬ (false = true) by decide)] at H; exact H
    clear H
    have H := H1
    clear H1
    simp only [Option.some.injEq, Prod.mk.injEq] at H
    obtain ⟨rfl, rfl, rfl⟩ := H
    go_enter Try.func15, Try.ntmps15
    go_wp2_with (first | ((with_reducible refine gate_callee (f := 14) rfl ?_); refine goesL_ (some 10) rfl rfl Try.func14 (by kernel_rfl) rfl #[.string a0] rfl (by (try simp only [List.map_toArray, List.map_cons, List.map_nil]); first | done | rfl | (simp only [List.length_drop, List.length_take]; rfl)) ?_; (with_reducible refine (supercargoref06_Name.calls k a0 false _ A3.out).mono ?_); rintro e w' ⟨rfl, ⟨nd, rfl⟩⟩; refine ⟨_, rfl, ?_⟩))
    go_ret3
    exact ⟨by first | rfl | (simp [errW_none, errW_some] <;> rfl) | (simp [*, errW_none, errW_some] <;> rfl), by repeat (first | (with_reducible first | exact HB.out | apply below_alloc | apply pw_below_drewN | apply below_drew1) | exact HB.out)⟩

end Go.Proofs.Ytjmbglgchmhahaa.P
