-- Written by the session's own program xprint.py, which runs the kit's print over functions given by hand.
import Derived.Test.YtggjphcikcflkaaDoorPx0
namespace Go.Proofs.YtggjphcikcflkaaDoor.P
open Go.RowKit Go.Proofs.YtggjphcikcflkaaDoorW.PrintWords Go.Proofs.YtggjphcikcflkaaDoorW.PrintLast Go.Proofs.YtggjphcikcflkaaDoorW.PrintMore
attribute [local go_sem] max2_int min2_int max_two min_two max_three min_three max_four min_four   -- for this text's walks alone
set_option linter.unusedVariables false
set_option linter.unusedSimpArgs false

/-! ### supercargoref01_Right: function 32 -/
def supercargoref01_Right.f (a0_0 : Int) (a0_1 : Int) : Option (Bool) := if a0_0 ≥ 0 then (some (decide (a0_1 ≥ 1))) else (some false)
set_option maxHeartbeats 8000000 in
set_option maxRecDepth 100000 in
theorem supercargoref01_Right.calls (a0_0 : Int) (a0_1 : Int) (r : Bool) (w : World) (h : supercargoref01_Right.f a0_0 a0_1 = some r) :
  Calls Tryd.prog 32 #[.agg #[.int .i64 a0_0, .int .i64 a0_1]] w fun e w' => e = .returned (.bool r) ∧ Below w.heap.size w w' := by
 have hu25 := Tryd.underlying25
 have HB := Aside0.mk (Below.refl w.heap.size w)
 have H : (if a0_0 ≥ 0 then (some (decide (a0_1 ≥ 1))) else (some false)) = some r := h
 clear h
 by_cases c2 : a0_0 ≥ 0
 ·rw [if_pos c2] at H
  have c2b0 : decide (0 ≤ a0_0) = true := decide_eq_true c2
  clear c2
  obtain rfl := Option.some.inj H
  go_enter Tryd.func32, Tryd.ntmps32
  go_wp2_with (first | ((with_reducible refine gate_dst (N := 1) rfl ?_); refine box_event ?hg (N := 1) ?hd (cs := #[.int .i64 a0_0, .int .i64 a0_1]) (t := 25) ?hr ?_; (case hd => rfl); (case hg => rfl); (case hr => first | (go_simp; done) | (go_simp; rfl)); intro gb188 hg w3 hbox hb; have n0_ := Aside0.mk (below_step (by repeat (first | (with_reducible first | exact HB.out | apply below_alloc | apply pw_below_drewN | apply below_drew1) | exact HB.out)) hb); have n1_ := Aside0.mk (hbox); have n2_ := Aside0.mk ((by rw [hg]; exact (below_size (by repeat (first | (with_reducible first | exact HB.out | apply below_alloc | apply pw_below_drewN | apply below_drew1) | exact HB.out))) : w.heap.size ≤ gb188)); have n3_ := Aside0.mk ((by rw [hg]; exact (below_size (by repeat (first | (with_reducible first | exact HB.out | apply below_alloc | apply pw_below_drewN | apply below_drew1) | exact HB.out))) : w.heap.size ≤ gb188)); clear HB; have HB := n0_; have BK188 := n1_; have GW188 := n2_; have GE188 := n3_; clear n0_ n1_ n2_ n3_; clear hb hbox hg; have hcz4_0 : w3.cell? ⟨gb188, 0, none⟩ = some (.int .i64 a0_0) := (blk_cell BK188.out 0).trans rfl; have hcz4_1 : w3.cell? ⟨gb188, 1, none⟩ = some (.int .i64 a0_1) := (blk_cell BK188.out 1).trans rfl; have hfz4_0 := blk_frozen BK188.out 0; have hfz4_1 := blk_frozen BK188.out 1))
  go_ret
  exact ⟨by first | rfl | (simp [errW_none, errW_some] <;> rfl) | (simp [*, errW_none, errW_some] <;> rfl), by repeat (first | (with_reducible first | exact HB.out | apply below_alloc | apply pw_below_drewN | apply below_drew1 | refine below_set ?_ GE188.out) | exact HB.out)⟩
 ·rw [if_neg c2] at H
  have c2b0 : decide (0 ≤ a0_0) = false := decide_eq_false c2
  clear c2
  obtain rfl := Option.some.inj H
  go_enter Tryd.func32, Tryd.ntmps32
  go_wp2_with (first | ((with_reducible refine gate_dst (N := 1) rfl ?_); refine box_event ?hg (N := 1) ?hd (cs := #[.int .i64 a0_0, .int .i64 a0_1]) (t := 25) ?hr ?_; (case hd => rfl); (case hg => rfl); (case hr => first | (go_simp; done) | (go_simp; rfl)); intro gb188 hg w5 hbox hb; have n0_ := Aside0.mk (below_step (by repeat (first | (with_reducible first | exact HB.out | apply below_alloc | apply pw_below_drewN | apply below_drew1) | exact HB.out)) hb); have n1_ := Aside0.mk (hbox); have n2_ := Aside0.mk ((by rw [hg]; exact (below_size (by repeat (first | (with_reducible first | exact HB.out | apply below_alloc | apply pw_below_drewN | apply below_drew1) | exact HB.out))) : w.heap.size ≤ gb188)); have n3_ := Aside0.mk ((by rw [hg]; exact (below_size (by repeat (first | (with_reducible first | exact HB.out | apply below_alloc | apply pw_below_drewN | apply below_drew1) | exact HB.out))) : w.heap.size ≤ gb188)); clear HB; have HB := n0_; have BK188 := n1_; have GW188 := n2_; have GE188 := n3_; clear n0_ n1_ n2_ n3_; clear hb hbox hg; have hcz6_0 : w5.cell? ⟨gb188, 0, none⟩ = some (.int .i64 a0_0) := (blk_cell BK188.out 0).trans rfl; have hcz6_1 : w5.cell? ⟨gb188, 1, none⟩ = some (.int .i64 a0_1) := (blk_cell BK188.out 1).trans rfl; have hfz6_0 := blk_frozen BK188.out 0; have hfz6_1 := blk_frozen BK188.out 1))
  go_ret
  exact ⟨by first | rfl | (simp [errW_none, errW_some] <;> rfl) | (simp [*, errW_none, errW_some] <;> rfl), by repeat (first | (with_reducible first | exact HB.out | apply below_alloc | apply pw_below_drewN | apply below_drew1 | refine below_set ?_ GE188.out) | exact HB.out)⟩

/-! ### supercargoref01_Parts: function 33 -/
mutual
def supercargoref01_Parts.l0 : Nat → Int → Int → Int → Int → Int → Int → Option (Int × Int)
 | 0, _, _, _, _, _, _ => none
 | k + 1, x0, x1, x2, x8, x9, x10 => if x10 < 41 then (if (IntKind.u64.wrap (2 * x9)) ≥ (IntKind.u64.wrap (x2)) then (supercargoref01_Parts.j1 k x0 x1 x2 (wrap64 ((wrap64 (2 * x8)) + 1)) (IntKind.u64.wrap ((IntKind.u64.wrap (2 * x9)) - (IntKind.u64.wrap (x2)))) x10) else (supercargoref01_Parts.j1 k x0 x1 x2 (wrap64 (2 * x8)) (IntKind.u64.wrap (2 * x9)) x10)) else (some (x8, wrap64 (x9)))
def supercargoref01_Parts.j1 : Nat → Int → Int → Int → Int → Int → Int → Option (Int × Int)
 | 0, _, _, _, _, _, _ => none
 | k + 1, x0, x1, x2, x8, x9, x10 => if 0 ≤ (IntKind.u64.wrap (wrap64 (40 - x10))) then (if (Go.bits .and .i64 (shr .i64 x0 (IntKind.u64.wrap (wrap64 (40 - x10)))) 1) = 1 then (if x2 = 0 then (none) else (if (wrap64 (Int.tdiv x1 x2)) > 2199023255552 then (some ((-1), 0)) else (if (IntKind.u64.wrap (x9 + (IntKind.u64.wrap (Int.tmod x1 x2)))) ≥ (IntKind.u64.wrap (x2)) then (if (wrap64 ((wrap64 (x8 + (wrap64 (Int.tdiv x1 x2)))) + 1)) > 2199023255552 then (some ((-1), 0)) else (supercargoref01_Parts.l0 k x0 x1 x2 (wrap64 ((wrap64 (x8 + (wrap64 (Int.tdiv x1 x2)))) + 1)) (IntKind.u64.wrap ((IntKind.u64.wrap (x9 + (IntKind.u64.wrap (Int.tmod x1 x2)))) - (IntKind.u64.wrap (x2)))) (wrap64 (x10 + 1)))) else (if (wrap64 (x8 + (wrap64 (Int.tdiv x1 x2)))) > 2199023255552 then (some ((-1), 0)) else (supercargoref01_Parts.l0 k x0 x1 x2 (wrap64 (x8 + (wrap64 (Int.tdiv x1 x2)))) (IntKind.u64.wrap (x9 + (IntKind.u64.wrap (Int.tmod x1 x2)))) (wrap64 (x10 + 1))))))) else (if x8 > 2199023255552 then (some ((-1), 0)) else (supercargoref01_Parts.l0 k x0 x1 x2 x8 x9 (wrap64 (x10 + 1))))) else (none)
end
def supercargoref01_Parts.f (k : Nat) (a0 : Int) (a1 : Int) (a2 : Int) : Option (Int × Int) := supercargoref01_Parts.l0 k a0 a1 a2 0 0 0
theorem supercargoref01_Parts.mono_l : ∀ k, (∀ y0 y1 y2 y3 y4 y5, LeO (supercargoref01_Parts.l0 k y0 y1 y2 y3 y4 y5) (supercargoref01_Parts.l0 (k + 1) y0 y1 y2 y3 y4 y5)) ∧ (∀ y0 y1 y2 y3 y4 y5, LeO (supercargoref01_Parts.j1 k y0 y1 y2 y3 y4 y5) (supercargoref01_Parts.j1 (k + 1) y0 y1 y2 y3 y4 y5))
 | 0 => ⟨fun _ _ _ _ _ _ r h => by simp [supercargoref01_Parts.l0] at h, fun _ _ _ _ _ _ r h => by simp [supercargoref01_Parts.j1] at h⟩
 | k + 1 => by
  obtain ⟨ih0, ih1⟩ := supercargoref01_Parts.mono_l k
  refine ⟨?_, ?_⟩
  ·intro y0 y1 y2 y3 y4 y5
   unfold supercargoref01_Parts.l0
   repeat' first
   | (with_reducible exact ih0 _ _ _ _ _ _)
   | (with_reducible exact ih1 _ _ _ _ _ _)
   | (with_reducible exact LeO.refl _)
   | (with_reducible exact LeO.none _)
   | (with_reducible refine LeO.ite ?_ ?_)
   | (with_reducible refine LeO.bind ?_ (fun _ => ?_))
   | exact ih0 _ _ _ _ _ _
   | exact ih1 _ _ _ _ _ _
   | exact LeO.none _
   | refine LeO.ite ?_ ?_
   | refine LeO.bind ?_ (fun _ => ?_)
  ·intro y0 y1 y2 y3 y4 y5
   unfold supercargoref01_Parts.j1
   repeat' first
   | (with_reducible exact ih0 _ _ _ _ _ _)
   | (with_reducible exact ih1 _ _ _ _ _ _)
   | (with_reducible exact LeO.refl _)
   | (with_reducible exact LeO.none _)
   | (with_reducible refine LeO.ite ?_ ?_)
   | (with_reducible refine LeO.bind ?_ (fun _ => ?_))
   | exact ih0 _ _ _ _ _ _
   | exact ih1 _ _ _ _ _ _
   | exact LeO.none _
   | refine LeO.ite ?_ ?_
   | refine LeO.bind ?_ (fun _ => ?_)
theorem supercargoref01_Parts.mono : ∀ a0 a1 a2 k, LeO (supercargoref01_Parts.f k a0 a1 a2) (supercargoref01_Parts.f (k + 1) a0 a1 a2) := by
 intro a0 a1 a2 k
 obtain ⟨ih0, ih1⟩ := supercargoref01_Parts.mono_l k
 unfold supercargoref01_Parts.f
 repeat' first
   | (with_reducible exact ih0 _ _ _ _ _ _)
   | (with_reducible exact ih1 _ _ _ _ _ _)
   | (with_reducible exact LeO.refl _)
   | (with_reducible exact LeO.none _)
   | (with_reducible refine LeO.ite ?_ ?_)
   | (with_reducible refine LeO.bind ?_ (fun _ => ?_))
   | exact ih0 _ _ _ _ _ _
   | exact ih1 _ _ _ _ _ _
   | exact LeO.none _
   | refine LeO.ite ?_ ?_
   | refine LeO.bind ?_ (fun _ => ?_)
set_option maxHeartbeats 8000000 in
set_option maxRecDepth 100000 in
theorem supercargoref01_Parts.calls (k : Nat) (a0 : Int) (a1 : Int) (a2 : Int) (r1 : Int) (r2 : Int) (w : World) (h : supercargoref01_Parts.f k a0 a1 a2 = some (r1, r2)) :
  Calls Tryd.prog 33 #[.int .i64 a0, .int .i64 a1, .int .i64 a2] w fun e w' => e = .returned (.tuple #[.int .i64 r1, .int .i64 r2]) ∧ Drawn0 w w' := by
 have H : (supercargoref01_Parts.l0 k a0 a1 a2 0 0 0) = some (r1, r2) := h
 clear h
 have H' := Aside0.mk H
 clear H
 go_enter Tryd.func33, Tryd.ntmps33
 go_wp2
 go_loopg [8, 9, 10] k (fun kq v8 v9 v10 w' => ∃ (x8_1 : Int) (x9_1 : Int) (x10_1 : Int), v8 = .int .i64 x8_1 ∧ v9 = .int .u64 x9_1 ∧ v10 = .int .i64 x10_1 ∧ Aside0 (supercargoref01_Parts.l0 kq a0 a1 a2 x8_1 x9_1 x10_1 = some (r1, r2)) ∧ Aside0 (kq ≤ k) ∧ Drawn0 w w')
 case atStart => exact ⟨(0), (0), (0), (by first | rfl | (simp; done) | (simp [*]; done)), (by first | rfl | (simp; done) | (simp [*]; done)), (by first | rfl | (simp; done) | (simp [*]; done)), H', ⟨Nat.le_refl _⟩, by repeat (first | exact Drawn0.refl _ | apply Drawn0.step)⟩
 case round =>
  clear H'
  try clear p2
  try clear c3
  obtain ⟨x8_1, x9_1, x10_1, rfl, rfl, rfl, HA, HK1, ⟨m1, rfl⟩⟩ := hrel
  cases gk with
  | zero => exact absurd HA.out (by simp [supercargoref01_Parts.l0])
  | succ k1 =>
   have H := HA.out
   clear HA
   simp only [supercargoref01_Parts.l0] at H
   by_cases c4 : x10_1 < 41
   ·rw [if_pos c4] at H
    have c4b0 : decide (x10_1 < 41) = true := decide_eq_true c4
    clear c4
    have HC5 := Aside0.mk H
    clear H
    go_upto_if 22 with (fail)
    go_cut [8, 9] (fun v8 v9 wc => ∃ (kq : Nat) (x8_4 : Int) (x9_4 : Int), v8 = .int .i64 x8_4 ∧ v9 = .int .u64 x9_4 ∧ Aside0 (supercargoref01_Parts.j1 kq a0 a1 a2 x8_4 x9_4 x10_1 = some (r1, r2)) ∧ Aside0 (kq ≤ k1) ∧ Drawn0 w wc)
    case first =>
     have H := HC5.out
     clear HC5
     by_cases c6 : (IntKind.u64.wrap (2 * x9_1)) ≥ (IntKind.u64.wrap (a2))
     ·rw [if_pos c6] at H
      have c6b0 : decide ((IntKind.u64.wrap (a2)) ≤ (IntKind.u64.wrap (2 * x9_1))) = true := decide_eq_true c6
      clear c6
      (first | rw [c6b0] | (simp only [i64_w, i32_w]; rw [c6b0]) | skip)
      have H' := Aside0.mk H
      clear H
      go_wp2
      go_meet
      case rel => exact ⟨_, (wrap64 ((wrap64 (2 * x8_1)) + 1)), (IntKind.u64.wrap ((IntKind.u64.wrap (2 * x9_1)) - (IntKind.u64.wrap (a2)))), (by first | rfl | (simp; done) | (simp [*]; done)), (by first | rfl | (simp; done) | (simp [*]; done)), H', ⟨by have := HK1.out; first | omega | exact Nat.le_refl _⟩, by repeat (first | exact Drawn0.refl _ | apply Drawn0.step)⟩
     ·rw [if_neg c6] at H
      have c6b0 : decide ((IntKind.u64.wrap (a2)) ≤ (IntKind.u64.wrap (2 * x9_1))) = false := decide_eq_false c6
      clear c6
      (first | rw [c6b0] | (simp only [i64_w, i32_w]; rw [c6b0]) | skip)
      have H' := Aside0.mk H
      clear H
      go_wp2
      go_meet
      case rel => exact ⟨_, (wrap64 (2 * x8_1)), (IntKind.u64.wrap (2 * x9_1)), (by first | rfl | (simp; done) | (simp [*]; done)), (by first | rfl | (simp; done) | (simp [*]; done)), H', ⟨by have := HK1.out; first | omega | exact Nat.le_refl _⟩, by repeat (first | exact Drawn0.refl _ | apply Drawn0.step)⟩
    case rest =>
     clear HC5
     try clear p2
     try clear c3
     try clear c4
     try clear c4b0
     try clear c6
     try clear c6b0
     try clear p6
     try clear p2
     obtain ⟨kq, x8_4, x9_4, rfl, rfl, HA, HJ4, ⟨mc4, rfl⟩⟩ := hcut
     cases kq with
     | zero => exact absurd HA.out (by simp [supercargoref01_Parts.j1])
     | succ kj4 =>
      have H := HA.out
      clear HA
      simp only [supercargoref01_Parts.j1] at H
      obtain ⟨ji7, hji7⟩ : ∃ j_ : Int, (IntKind.u64.wrap (wrap64 (40 - x10_1))) = j_ := ⟨_, rfl⟩
      replace H : (if 0 ≤ (ji7) then (if (Go.bits .and .i64 (shr .i64 a0 (ji7)) 1) = 1 then (if a2 = 0 then (none) else (if (wrap64 (Int.tdiv a1 a2)) > 2199023255552 then (some ((-1), 0)) else (if (IntKind.u64.wrap (x9_4 + (IntKind.u64.wrap (Int.tmod a1 a2)))) ≥ (IntKind.u64.wrap (a2)) then (if (wrap64 ((wrap64 (x8_4 + (wrap64 (Int.tdiv a1 a2)))) + 1)) > 2199023255552 then (some ((-1), 0)) else (supercargoref01_Parts.l0 kj4 a0 a1 a2 (wrap64 ((wrap64 (x8_4 + (wrap64 (Int.tdiv a1 a2)))) + 1)) (IntKind.u64.wrap ((IntKind.u64.wrap (x9_4 + (IntKind.u64.wrap (Int.tmod a1 a2)))) - (IntKind.u64.wrap (a2)))) (wrap64 (x10_1 + 1)))) else (if (wrap64 (x8_4 + (wrap64 (Int.tdiv a1 a2)))) > 2199023255552 then (some ((-1), 0)) else (supercargoref01_Parts.l0 kj4 a0 a1 a2 (wrap64 (x8_4 + (wrap64 (Int.tdiv a1 a2)))) (IntKind.u64.wrap (x9_4 + (IntKind.u64.wrap (Int.tmod a1 a2)))) (wrap64 (x10_1 + 1))))))) else (if x8_4 > 2199023255552 then (some ((-1), 0)) else (supercargoref01_Parts.l0 kj4 a0 a1 a2 x8_4 x9_4 (wrap64 (x10_1 + 1))))) else (none)) = some (r1, r2) := by first | (rw [hji7] at H; exact H) | (simp only [hji7] at H ⊢; exact H)
      by_cases c8 : 0 ≤ (ji7)
      ·rw [if_pos c8] at H
       have c8b0 := eq_true c8
       have c8b1 : decide (0 ≤ (ji7)) = true := decide_eq_true c8
       clear c8
       obtain ⟨ji9, hji9⟩ : ∃ j_ : Int, (shr .i64 a0 (ji7)) = j_ := ⟨_, rfl⟩
       replace H : (if (Go.bits .and .i64 (ji9) 1) = 1 then (if a2 = 0 then (none) else (if (wrap64 (Int.tdiv a1 a2)) > 2199023255552 then (some ((-1), 0)) else (if (IntKind.u64.wrap (x9_4 + (IntKind.u64.wrap (Int.tmod a1 a2)))) ≥ (IntKind.u64.wrap (a2)) then (if (wrap64 ((wrap64 (x8_4 + (wrap64 (Int.tdiv a1 a2)))) + 1)) > 2199023255552 then (some ((-1), 0)) else (supercargoref01_Parts.l0 kj4 a0 a1 a2 (wrap64 ((wrap64 (x8_4 + (wrap64 (Int.tdiv a1 a2)))) + 1)) (IntKind.u64.wrap ((IntKind.u64.wrap (x9_4 + (IntKind.u64.wrap (Int.tmod a1 a2)))) - (IntKind.u64.wrap (a2)))) (wrap64 (x10_1 + 1)))) else (if (wrap64 (x8_4 + (wrap64 (Int.tdiv a1 a2)))) > 2199023255552 then (some ((-1), 0)) else (supercargoref01_Parts.l0 kj4 a0 a1 a2 (wrap64 (x8_4 + (wrap64 (Int.tdiv a1 a2)))) (IntKind.u64.wrap (x9_4 + (IntKind.u64.wrap (Int.tmod a1 a2)))) (wrap64 (x10_1 + 1))))))) else (if x8_4 > 2199023255552 then (some ((-1), 0)) else (supercargoref01_Parts.l0 kj4 a0 a1 a2 x8_4 x9_4 (wrap64 (x10_1 + 1))))) = some (r1, r2) := by first | (rw [hji9] at H; exact H) | (simp only [hji9] at H ⊢; exact H)
       have hji9_ : (a0 / 2 ^ min (ji7).toNat 64) = ji9 := hji9
       have hji9z : (ji7) ≤ 64 → (a0 / 2 ^ (ji7).toNat) = ji9 := shr_small hji9
       by_cases c10 : (Go.bits .and .i64 (ji9) 1) = 1
       ·rw [if_pos c10] at H
        have c10b0 : ((Go.bits .and .i64 (ji9) 1) == 1) = true := beq_iff_eq.mpr c10
        have c10b1 : ((Go.bits .and .i64 (ji9) 1) != 1) = false := bne_eq_false_iff_eq.mpr c10
        clear c10
        by_cases c11 : a2 = 0
        ·rw [if_pos c11] at H
         exact absurd H (by simp)
        ·rw [if_neg c11] at H
         have c11b0 : (a2 == 0) = false := beq_eq_false_iff_ne.mpr c11
         have c11b1 : (a2 != 0) = true := bne_iff_ne.mpr c11
         by_cases c12 : (wrap64 (Int.tdiv a1 a2)) > 2199023255552
         ·rw [if_pos c12] at H
          have c12b0 : decide (2199023255552 < (wrap64 (Int.tdiv a1 a2))) = true := decide_eq_true c12
          clear c12
          simp only [Option.some.injEq, Prod.mk.injEq] at H
          obtain ⟨rfl, rfl⟩ := H
          go_wp2
          go_ret2
          exact ⟨by first | rfl | (simp; done) | (simp only [← hji7, ← hji9] <;> (first | rfl | simp)) | (simp [*]; done), by repeat (first | exact Drawn0.refl _ | apply Drawn0.step)⟩
         ·rw [if_neg c12] at H
          have c12b0 : decide (2199023255552 < (wrap64 (Int.tdiv a1 a2))) = false := decide_eq_false c12
          clear c12
          by_cases c13 : (IntKind.u64.wrap (x9_4 + (IntKind.u64.wrap (Int.tmod a1 a2)))) ≥ (IntKind.u64.wrap (a2))
          ·rw [if_pos c13] at H
           have c13b0 : decide ((IntKind.u64.wrap (a2)) ≤ (IntKind.u64.wrap (x9_4 + (IntKind.u64.wrap (Int.tmod a1 a2))))) = true := decide_eq_true c13
           clear c13
           by_cases c14 : (wrap64 ((wrap64 (x8_4 + (wrap64 (Int.tdiv a1 a2)))) + 1)) > 2199023255552
           ·rw [if_pos c14] at H
            have c14b0 : decide (2199023255552 < (wrap64 ((wrap64 (x8_4 + (wrap64 (Int.tdiv a1 a2)))) + 1))) = true := decide_eq_true c14
            clear c14
            simp only [Option.some.injEq, Prod.mk.injEq] at H
            obtain ⟨rfl, rfl⟩ := H
            go_wp2
            go_ret2
            exact ⟨by first | rfl | (simp; done) | (simp only [← hji7, ← hji9] <;> (first | rfl | simp)) | (simp [*]; done), by repeat (first | exact Drawn0.refl _ | apply Drawn0.step)⟩
           ·rw [if_neg c14] at H
            have c14b0 : decide (2199023255552 < (wrap64 ((wrap64 (x8_4 + (wrap64 (Int.tdiv a1 a2)))) + 1))) = false := decide_eq_false c14
            clear c14
            have H' := Aside0.mk H
            clear H
            go_wp2
            go_roundg kj4
            case measure => have := HK1.out; have := HJ4.out; omega
            case rel => exact ⟨(wrap64 ((wrap64 (x8_4 + (wrap64 (Int.tdiv a1 a2)))) + 1)), (IntKind.u64.wrap ((IntKind.u64.wrap (x9_4 + (IntKind.u64.wrap (Int.tmod a1 a2)))) - (IntKind.u64.wrap (a2)))), (wrap64 (x10_1 + 1)), (by first | rfl | (simp; done) | (simp [*]; done)), (by first | rfl | (simp; done) | (simp [*]; done)), (by first | rfl | (simp; done) | (simp [*]; done)), H', ⟨by have := HK1.out; have := HJ4.out; omega⟩, by repeat (first | exact Drawn0.refl _ | apply Drawn0.step)⟩
          ·rw [if_neg c13] at H
           have c13b0 : decide ((IntKind.u64.wrap (a2)) ≤ (IntKind.u64.wrap (x9_4 + (IntKind.u64.wrap (Int.tmod a1 a2))))) = false := decide_eq_false c13
           clear c13
           by_cases c15 : (wrap64 (x8_4 + (wrap64 (Int.tdiv a1 a2)))) > 2199023255552
           ·rw [if_pos c15] at H
            have c15b0 : decide (2199023255552 < (wrap64 (x8_4 + (wrap64 (Int.tdiv a1 a2))))) = true := decide_eq_true c15
            clear c15
            simp only [Option.some.injEq, Prod.mk.injEq] at H
            obtain ⟨rfl, rfl⟩ := H
            go_wp2
            go_ret2
            exact ⟨by first | rfl | (simp; done) | (simp only [← hji7, ← hji9] <;> (first | rfl | simp)) | (simp [*]; done), by repeat (first | exact Drawn0.refl _ | apply Drawn0.step)⟩
           ·rw [if_neg c15] at H
            have c15b0 : decide (2199023255552 < (wrap64 (x8_4 + (wrap64 (Int.tdiv a1 a2))))) = false := decide_eq_false c15
            clear c15
            have H' := Aside0.mk H
            clear H
            go_wp2
            go_roundg kj4
            case measure => have := HK1.out; have := HJ4.out; omega
            case rel => exact ⟨(wrap64 (x8_4 + (wrap64 (Int.tdiv a1 a2)))), (IntKind.u64.wrap (x9_4 + (IntKind.u64.wrap (Int.tmod a1 a2)))), (wrap64 (x10_1 + 1)), (by first | rfl | (simp; done) | (simp [*]; done)), (by first | rfl | (simp; done) | (simp [*]; done)), (by first | rfl | (simp; done) | (simp [*]; done)), H', ⟨by have := HK1.out; have := HJ4.out; omega⟩, by repeat (first | exact Drawn0.refl _ | apply Drawn0.step)⟩
       ·rw [if_neg c10] at H
        have c10b0 : ((Go.bits .and .i64 (ji9) 1) == 1) = false := beq_eq_false_iff_ne.mpr c10
        have c10b1 : ((Go.bits .and .i64 (ji9) 1) != 1) = true := bne_iff_ne.mpr c10
        by_cases c16 : x8_4 > 2199023255552
        ·rw [if_pos c16] at H
         have c16b0 : decide (2199023255552 < x8_4) = true := decide_eq_true c16
         clear c16
         simp only [Option.some.injEq, Prod.mk.injEq] at H
         obtain ⟨rfl, rfl⟩ := H
         go_wp2
         go_ret2
         exact ⟨by first | rfl | (simp; done) | (simp only [← hji7, ← hji9] <;> (first | rfl | simp)) | (simp [*]; done), by repeat (first | exact Drawn0.refl _ | apply Drawn0.step)⟩
        ·rw [if_neg c16] at H
         have c16b0 : decide (2199023255552 < x8_4) = false := decide_eq_false c16
         clear c16
         have H' := Aside0.mk H
         clear H
         go_wp2
         go_roundg kj4
         case measure => have := HK1.out; have := HJ4.out; omega
         case rel => exact ⟨(x8_4), (x9_4), (wrap64 (x10_1 + 1)), (by first | rfl | (simp; done) | (simp [*]; done)), (by first | rfl | (simp; done) | (simp [*]; done)), (by first | rfl | (simp; done) | (simp [*]; done)), H', ⟨by have := HK1.out; have := HJ4.out; omega⟩, by repeat (first | exact Drawn0.refl _ | apply Drawn0.step)⟩
      ·rw [if_neg c8] at H
       exact absurd H (by simp)
   ·rw [if_neg c4] at H
    have c4b0 : decide (x10_1 < 41) = false := decide_eq_false c4
    clear c4
    simp only [Option.some.injEq, Prod.mk.injEq] at H
    obtain ⟨rfl, rfl⟩ := H
    go_wp2
    go_ret2
    exact ⟨by first | rfl | (simp; done) | (simp [*]; done), by repeat (first | exact Drawn0.refl _ | apply Drawn0.step)⟩

end Go.Proofs.YtggjphcikcflkaaDoor.P
