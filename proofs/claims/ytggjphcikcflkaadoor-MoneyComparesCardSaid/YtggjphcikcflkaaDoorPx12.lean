-- Written by the session's own program xprint.py, which runs the kit's print over functions given by hand.
import Derived.Test.YtggjphcikcflkaaDoorPx0
import Derived.Test.YtggjphcikcflkaaDoorPx4
import Derived.Test.YtggjphcikcflkaaDoorPx9
import Derived.Test.YtggjphcikcflkaaDoorPx10
import Derived.Test.YtggjphcikcflkaaDoorPx11
namespace Go.Proofs.YtggjphcikcflkaaDoor.P
open Go.RowKit Go.Proofs.YtggjphcikcflkaaDoorW.PrintWords Go.Proofs.YtggjphcikcflkaaDoorW.PrintLast Go.Proofs.YtggjphcikcflkaaDoorW.PrintMore
attribute [local go_sem] max2_int min2_int max_two min_two max_three min_three max_four min_four   -- for this text's walks alone
open List (setIfInBounds_toArray set_cons_zero set_cons_succ)
set_option linter.unusedVariables false
set_option linter.unusedSimpArgs false

/-! ### money_Text: function 15 -/
def money_Text.j0 : Nat → ByteArray → Int → ByteArray → Int → Option (ByteArray)
 | 0, _, _, _, _ => none
 | k + 1, x3, x4, x125000, x125001 => (money_digits.f k x125000).bind fun t126 => ((strconv_FormatInt.f x4 10).bind fun t127 => (if t126 = 0 then (if x125000.size + 1 ≤ 9223372036854775807 then (if (x125000 ++ (⟨#[32]⟩ : ByteArray)).size + x3.size ≤ 9223372036854775807 then (if ((x125000 ++ (⟨#[32]⟩ : ByteArray)) ++ x3).size + t127.size ≤ 9223372036854775807 then (some (((x125000 ++ (⟨#[32]⟩ : ByteArray)) ++ x3) ++ t127)) else (none)) else (none)) else (none)) else (if (wrap64 ((wrap64 (t126 + 1)) - (t127.size : Int))) > 0 then ((strings_Repeat.f (⟨#[48]⟩ : ByteArray) (wrap64 ((wrap64 (t126 + 1)) - (t127.size : Int)))).bind fun t128 => (if t128.size + t127.size ≤ 9223372036854775807 then (if x125000.size + 1 ≤ 9223372036854775807 then (if (x125000 ++ (⟨#[32]⟩ : ByteArray)).size + x3.size ≤ 9223372036854775807 then (if 0 ≤ (wrap64 (((t128 ++ t127).size : Int) - t126)) then (if (wrap64 (((t128 ++ t127).size : Int) - t126)) ≤ ((t128 ++ t127).size : Int) then (if ((x125000 ++ (⟨#[32]⟩ : ByteArray)) ++ x3).size + ((t128 ++ t127).extract 0 ((wrap64 (((t128 ++ t127).size : Int) - t126)) : Int).toNat).size ≤ 9223372036854775807 then (if (((x125000 ++ (⟨#[32]⟩ : ByteArray)) ++ x3) ++ ((t128 ++ t127).extract 0 ((wrap64 (((t128 ++ t127).size : Int) - t126)) : Int).toNat)).size + 1 ≤ 9223372036854775807 then (if ((((x125000 ++ (⟨#[32]⟩ : ByteArray)) ++ x3) ++ ((t128 ++ t127).extract 0 ((wrap64 (((t128 ++ t127).size : Int) - t126)) : Int).toNat)) ++ (⟨#[46]⟩ : ByteArray)).size + ((t128 ++ t127).extract ((wrap64 (((t128 ++ t127).size : Int) - t126)) : Int).toNat (t128 ++ t127).size).size ≤ 9223372036854775807 then (some (((((x125000 ++ (⟨#[32]⟩ : ByteArray)) ++ x3) ++ ((t128 ++ t127).extract 0 ((wrap64 (((t128 ++ t127).size : Int) - t126)) : Int).toNat)) ++ (⟨#[46]⟩ : ByteArray)) ++ ((t128 ++ t127).extract ((wrap64 (((t128 ++ t127).size : Int) - t126)) : Int).toNat (t128 ++ t127).size))) else (none)) else (none)) else (none)) else (none)) else (none)) else (none)) else (none)) else (none))) else (if x125000.size + 1 ≤ 9223372036854775807 then (if (x125000 ++ (⟨#[32]⟩ : ByteArray)).size + x3.size ≤ 9223372036854775807 then (if 0 ≤ (wrap64 ((t127.size : Int) - t126)) then (if (wrap64 ((t127.size : Int) - t126)) ≤ (t127.size : Int) then (if ((x125000 ++ (⟨#[32]⟩ : ByteArray)) ++ x3).size + (t127.extract 0 ((wrap64 ((t127.size : Int) - t126)) : Int).toNat).size ≤ 9223372036854775807 then (if (((x125000 ++ (⟨#[32]⟩ : ByteArray)) ++ x3) ++ (t127.extract 0 ((wrap64 ((t127.size : Int) - t126)) : Int).toNat)).size + 1 ≤ 9223372036854775807 then (if ((((x125000 ++ (⟨#[32]⟩ : ByteArray)) ++ x3) ++ (t127.extract 0 ((wrap64 ((t127.size : Int) - t126)) : Int).toNat)) ++ (⟨#[46]⟩ : ByteArray)).size + (t127.extract ((wrap64 ((t127.size : Int) - t126)) : Int).toNat t127.size).size ≤ 9223372036854775807 then (some (((((x125000 ++ (⟨#[32]⟩ : ByteArray)) ++ x3) ++ (t127.extract 0 ((wrap64 ((t127.size : Int) - t126)) : Int).toNat)) ++ (⟨#[46]⟩ : ByteArray)) ++ (t127.extract ((wrap64 ((t127.size : Int) - t126)) : Int).toNat t127.size))) else (none)) else (none)) else (none)) else (none)) else (none)) else (none)) else (none)))))
def money_Text.f (k : Nat) (a0_0 : ByteArray) (a0_1 : Int) : Option (ByteArray) := (money_May.f a0_0 a0_1).bind fun t125 => (if t125 = true then (if a0_1 < 0 then (money_Text.j0 k (⟨#[45]⟩ : ByteArray) (wrap64 (-a0_1)) a0_0 a0_1) else (money_Text.j0 k (⟨#[]⟩ : ByteArray) a0_1 a0_0 a0_1)) else (some (⟨#[]⟩ : ByteArray)))
theorem money_Text.mono_l : ∀ k, (∀ y0 y1 y2 y3, LeO (money_Text.j0 k y0 y1 y2 y3) (money_Text.j0 (k + 1) y0 y1 y2 y3))
 | 0 => fun _ _ _ _ r h => by simp [money_Text.j0] at h
 | k + 1 => by
  have ih0 := money_Text.mono_l k
  ·intro y0 y1 y2 y3
   unfold money_Text.j0
   repeat' first
   | (with_reducible exact ih0 _ _ _ _)
   | (with_reducible exact money_digits.mono _ _)
   | (with_reducible exact LeO.refl _)
   | (with_reducible exact LeO.none _)
   | (with_reducible refine LeO.ite ?_ ?_)
   | (with_reducible refine LeO.bind ?_ (fun _ => ?_))
   | exact ih0 _ _ _ _
   | exact money_digits.mono _ _
   | exact LeO.none _
   | refine LeO.ite ?_ ?_
   | refine LeO.bind ?_ (fun _ => ?_)
theorem money_Text.mono : ∀ a0 a1 k, LeO (money_Text.f k a0 a1) (money_Text.f (k + 1) a0 a1) := by
 intro a0 a1 k
 have ih0 := money_Text.mono_l k
 unfold money_Text.f
 repeat' first
   | (with_reducible exact ih0 _ _ _ _)
   | (with_reducible exact money_digits.mono _ _)
   | (with_reducible exact LeO.refl _)
   | (with_reducible exact LeO.none _)
   | (with_reducible refine LeO.ite ?_ ?_)
   | (with_reducible refine LeO.bind ?_ (fun _ => ?_))
   | exact ih0 _ _ _ _
   | exact money_digits.mono _ _
   | exact LeO.none _
   | refine LeO.ite ?_ ?_
   | refine LeO.bind ?_ (fun _ => ?_)
set_option maxHeartbeats 8000000 in
set_option maxRecDepth 100000 in
theorem money_Text.calls (k : Nat) (a0_0 : ByteArray) (a0_1 : Int) (r : ByteArray) (w : World) (hT : Tabs w) (h : money_Text.f k a0_0 a0_1 = some r) :
  Calls Tryd.prog 15 #[.agg #[.string a0_0, .int .i64 a0_1]] w fun e w' => e = .returned (.string r) ∧ Below w.heap.size w w' := by
 have hu23 := Tryd.underlying23
 have HT := Aside0.mk hT
 clear hT
 have HB := Aside0.mk (Below.refl w.heap.size w)
 have H : ((money_May.f a0_0 a0_1).bind fun t125 => (if t125 = true then (if a0_1 < 0 then (money_Text.j0 k (⟨#[45]⟩ : ByteArray) (wrap64 (-a0_1)) a0_0 a0_1) else (money_Text.j0 k (⟨#[]⟩ : ByteArray) a0_1 a0_0 a0_1)) else (some (⟨#[]⟩ : ByteArray)))) = some r := h
 clear h
 replace H := Option.bind_eq_some_iff.mp H
 obtain ⟨t125, A20, H⟩ := H
 replace H : (if t125 = true then (if a0_1 < 0 then (money_Text.j0 k (⟨#[45]⟩ : ByteArray) (wrap64 (-a0_1)) a0_0 a0_1) else (money_Text.j0 k (⟨#[]⟩ : ByteArray) a0_1 a0_0 a0_1)) else (some (⟨#[]⟩ : ByteArray))) = some r := H
 have A2 := Aside0.mk A20
 clear A20
 by_cases c3 : t125 = true
 ·subst c3
  have H1 : (if a0_1 < 0 then (money_Text.j0 k (⟨#[45]⟩ : ByteArray) (wrap64 (-a0_1)) a0_0 a0_1) else (money_Text.j0 k (⟨#[]⟩ : ByteArray) a0_1 a0_0 a0_1)) = some r := by rw [if_pos rfl] at H; exact H
  clear H
  have H := H1
  clear H1
  have HC4 := Aside0.mk H
  clear H
  go_enter Tryd.func15, Tryd.ntmps15
  go_upto_if 15 with (first | ((with_reducible refine gate_dst (N := 1) rfl ?_); refine box_event ?hg (N := 1) ?hd (cs := #[.string a0_0, .int .i64 a0_1]) (t := 23) ?hr ?_; (case hd => rfl); (case hg => rfl); (case hr => first | (go_simp; done) | (go_simp; rfl)); intro gb124 hg w5 hbox hb; have n0_ := Aside0.mk (below_step (by repeat (first | (with_reducible first | exact HB.out | apply below_alloc | apply pw_below_drewN | apply below_drew1) | exact HB.out)) hb); have n1_ := Aside0.mk (hbox); have n2_ := Aside0.mk ((by rw [hg]; exact (below_size (by repeat (first | (with_reducible first | exact HB.out | apply below_alloc | apply pw_below_drewN | apply below_drew1) | exact HB.out))) : w.heap.size ≤ gb124)); have n3_ := Aside0.mk ((by rw [hg]; exact (below_size (by repeat (first | (with_reducible first | exact HB.out | apply below_alloc | apply pw_below_drewN | apply below_drew1) | exact HB.out))) : w.heap.size ≤ gb124)); clear HB; have HB := n0_; have BK124 := n1_; have GW124 := n2_; have GE124 := n3_; clear n0_ n1_ n2_ n3_; clear hb hbox hg; have hcz6_0 : w5.cell? ⟨gb124, 0, none⟩ = some (.string a0_0) := (blk_cell BK124.out 0).trans rfl; have hcz6_1 : w5.cell? ⟨gb124, 1, none⟩ = some (.int .i64 a0_1) := (blk_cell BK124.out 1).trans rfl; have hfz6_0 := blk_frozen BK124.out 0; have hfz6_1 := blk_frozen BK124.out 1) | (go_at_call 22; (with_reducible refine (money_May.calls a0_0 a0_1 true _ A2.out).mono ?_); rintro e w7 ⟨rfl, hb⟩; have n0_ := Aside0.mk (blk_below (g := gb124) (o := .cells #[.string a0_0, .int .i64 a0_1] 23 (0, 0)) (by (with_reducible repeat (first | refine blk_drewN ?_ _ | refine blk_drew ?_ | refine blk_alloc ?_ _)); exact BK124.out) hb); have n1_ := Aside0.mk (below_step (by repeat (first | (with_reducible first | exact HB.out | apply below_alloc | apply pw_below_drewN | apply below_drew1 | refine below_set ?_ GE124.out) | exact HB.out)) hb); clear BK124; clear HB; have BK124 := n0_; have HB := n1_; clear n0_ n1_; (try clear hb); (try clear hb2); (try clear hk); (try clear hi); have hcz8_0 : w7.cell? ⟨gb124, 0, none⟩ = some (.string a0_0) := (blk_cell BK124.out 0).trans rfl; have hcz8_1 : w7.cell? ⟨gb124, 1, none⟩ = some (.int .i64 a0_1) := (blk_cell BK124.out 1).trans rfl; have hfz8_0 := blk_frozen BK124.out 0; have hfz8_1 := blk_frozen BK124.out 1))
  repeat (go_quiet (first | ((with_reducible refine gate_dst (N := 1) rfl ?_); refine box_event ?hg (N := 1) ?hd (cs := #[.string a0_0, .int .i64 a0_1]) (t := 23) ?hr ?_; (case hd => rfl); (case hg => rfl); (case hr => first | (go_simp; done) | (go_simp; rfl)); intro gb124 hg w5 hbox hb; have n0_ := Aside0.mk (below_step (by repeat (first | (with_reducible first | exact HB.out | apply below_alloc | apply pw_below_drewN | apply below_drew1) | exact HB.out)) hb); have n1_ := Aside0.mk (hbox); have n2_ := Aside0.mk ((by rw [hg]; exact (below_size (by repeat (first | (with_reducible first | exact HB.out | apply below_alloc | apply pw_below_drewN | apply below_drew1) | exact HB.out))) : w.heap.size ≤ gb124)); have n3_ := Aside0.mk ((by rw [hg]; exact (below_size (by repeat (first | (with_reducible first | exact HB.out | apply below_alloc | apply pw_below_drewN | apply below_drew1) | exact HB.out))) : w.heap.size ≤ gb124)); clear HB; have HB := n0_; have BK124 := n1_; have GW124 := n2_; have GE124 := n3_; clear n0_ n1_ n2_ n3_; clear hb hbox hg; have hcz6_0 : w5.cell? ⟨gb124, 0, none⟩ = some (.string a0_0) := (blk_cell BK124.out 0).trans rfl; have hcz6_1 : w5.cell? ⟨gb124, 1, none⟩ = some (.int .i64 a0_1) := (blk_cell BK124.out 1).trans rfl; have hfz6_0 := blk_frozen BK124.out 0; have hfz6_1 := blk_frozen BK124.out 1) | (go_at_call 22; (with_reducible refine (money_May.calls a0_0 a0_1 true _ A2.out).mono ?_); rintro e w7 ⟨rfl, hb⟩; have n0_ := Aside0.mk (blk_below (g := gb124) (o := .cells #[.string a0_0, .int .i64 a0_1] 23 (0, 0)) (by (with_reducible repeat (first | refine blk_drewN ?_ _ | refine blk_drew ?_ | refine blk_alloc ?_ _)); exact BK124.out) hb); have n1_ := Aside0.mk (below_step (by repeat (first | (with_reducible first | exact HB.out | apply below_alloc | apply pw_below_drewN | apply below_drew1 | refine below_set ?_ GE124.out) | exact HB.out)) hb); clear BK124; clear HB; have BK124 := n0_; have HB := n1_; clear n0_ n1_; (try clear hb); (try clear hb2); (try clear hk); (try clear hi); have hcz8_0 : w7.cell? ⟨gb124, 0, none⟩ = some (.string a0_0) := (blk_cell BK124.out 0).trans rfl; have hcz8_1 : w7.cell? ⟨gb124, 1, none⟩ = some (.int .i64 a0_1) := (blk_cell BK124.out 1).trans rfl; have hfz8_0 := blk_frozen BK124.out 0; have hfz8_1 := blk_frozen BK124.out 1)); go_upto_if 15 with (first | ((with_reducible refine gate_dst (N := 1) rfl ?_); refine box_event ?hg (N := 1) ?hd (cs := #[.string a0_0, .int .i64 a0_1]) (t := 23) ?hr ?_; (case hd => rfl); (case hg => rfl); (case hr => first | (go_simp; done) | (go_simp; rfl)); intro gb124 hg w5 hbox hb; have n0_ := Aside0.mk (below_step (by repeat (first | (with_reducible first | exact HB.out | apply below_alloc | apply pw_below_drewN | apply below_drew1) | exact HB.out)) hb); have n1_ := Aside0.mk (hbox); have n2_ := Aside0.mk ((by rw [hg]; exact (below_size (by repeat (first | (with_reducible first | exact HB.out | apply below_alloc | apply pw_below_drewN | apply below_drew1) | exact HB.out))) : w.heap.size ≤ gb124)); have n3_ := Aside0.mk ((by rw [hg]; exact (below_size (by repeat (first | (with_reducible first | exact HB.out | apply below_alloc | apply pw_below_drewN | apply below_drew1) | exact HB.out))) : w.heap.size ≤ gb124)); clear HB; have HB := n0_; have BK124 := n1_; have GW124 := n2_; have GE124 := n3_; clear n0_ n1_ n2_ n3_; clear hb hbox hg; have hcz6_0 : w5.cell? ⟨gb124, 0, none⟩ = some (.string a0_0) := (blk_cell BK124.out 0).trans rfl; have hcz6_1 : w5.cell? ⟨gb124, 1, none⟩ = some (.int .i64 a0_1) := (blk_cell BK124.out 1).trans rfl; have hfz6_0 := blk_frozen BK124.out 0; have hfz6_1 := blk_frozen BK124.out 1) | (go_at_call 22; (with_reducible refine (money_May.calls a0_0 a0_1 true _ A2.out).mono ?_); rintro e w7 ⟨rfl, hb⟩; have n0_ := Aside0.mk (blk_below (g := gb124) (o := .cells #[.string a0_0, .int .i64 a0_1] 23 (0, 0)) (by (with_reducible repeat (first | refine blk_drewN ?_ _ | refine blk_drew ?_ | refine blk_alloc ?_ _)); exact BK124.out) hb); have n1_ := Aside0.mk (below_step (by repeat (first | (with_reducible first | exact HB.out | apply below_alloc | apply pw_below_drewN | apply below_drew1 | refine below_set ?_ GE124.out) | exact HB.out)) hb); clear BK124; clear HB; have BK124 := n0_; have HB := n1_; clear n0_ n1_; (try clear hb); (try clear hb2); (try clear hk); (try clear hi); have hcz8_0 : w7.cell? ⟨gb124, 0, none⟩ = some (.string a0_0) := (blk_cell BK124.out 0).trans rfl; have hcz8_1 : w7.cell? ⟨gb124, 1, none⟩ = some (.int .i64 a0_1) := (blk_cell BK124.out 1).trans rfl; have hfz8_0 := blk_frozen BK124.out 0; have hfz8_1 := blk_frozen BK124.out 1)))
  (try simp only [Act.put, setIfInBounds_toArray, set_cons_zero, set_cons_succ])
  go_cut [3, 4] (fun v3 v4 wc => ∃ (kq : Nat) (x3_3 : ByteArray) (x4_3 : Int), v3 = .string x3_3 ∧ v4 = .int .i64 x4_3 ∧ Aside0 (money_Text.j0 kq x3_3 x4_3 a0_0 a0_1 = some r) ∧ Aside0 (kq ≤ k) ∧ Aside0 (wc.heap[gb124]? = some (.cells #[.string a0_0, .int .i64 a0_1] 23 (0, 0))) ∧ Aside0 (Below w.heap.size w wc))
  case first =>
   have H := HC4.out
   clear HC4
   by_cases c9 : a0_1 < 0
   ·rw [if_pos c9] at H
    have c9b0 : decide (a0_1 < 0) = true := decide_eq_true c9
    clear c9
    (first | rw [c9b0] | (simp only [i64_w, i32_w]; rw [c9b0]) | skip)
    have H' := Aside0.mk H
    clear H
    go_wp2
    repeat (go_quiet (fail); try go_wp2)
    go_meet
    case rel => exact ⟨_, ((⟨#[45]⟩ : ByteArray)), (wrap64 (-a0_1)), (by first | rfl | (simp; done) | (simp [*]; done)), (by first | rfl | (simp; done) | (simp [*]; done)), H', ⟨by first | omega | exact Nat.le_refl _⟩, ⟨by (with_reducible repeat (first | refine blk_drewN ?_ _ | refine blk_drew ?_ | refine blk_alloc ?_ _)); exact BK124.out⟩, ⟨by repeat (first | (with_reducible first | exact HB.out | apply below_alloc | apply pw_below_drewN | apply below_drew1 | refine below_set ?_ GE124.out) | exact HB.out)⟩⟩
   ·rw [if_neg c9] at H
    have c9b0 : decide (a0_1 < 0) = false := decide_eq_false c9
    clear c9
    (first | rw [c9b0] | (simp only [i64_w, i32_w]; rw [c9b0]) | skip)
    have H' := Aside0.mk H
    clear H
    go_wp2
    repeat (go_quiet (fail); try go_wp2)
    go_meet
    case rel => exact ⟨_, ((⟨#[]⟩ : ByteArray)), (a0_1), (by first | rfl | (simp; done) | (simp [*]; done)), (by first | rfl | (simp; done) | (simp [*]; done)), H', ⟨by first | omega | exact Nat.le_refl _⟩, ⟨by (with_reducible repeat (first | refine blk_drewN ?_ _ | refine blk_drew ?_ | refine blk_alloc ?_ _)); exact BK124.out⟩, ⟨by repeat (first | (with_reducible first | exact HB.out | apply below_alloc | apply pw_below_drewN | apply below_drew1 | refine below_set ?_ GE124.out) | exact HB.out)⟩⟩
  case rest =>
   clear HC4
   try clear c1
   try clear p2
   try clear c3
   try clear p6
   try clear c9
   try clear c9b0
   try clear hcz6_0
   try clear hcz6_1
   try clear hcz8_0
   try clear hcz8_1
   try clear hfz6_0
   try clear hfz6_1
   try clear hfz8_0
   try clear hfz8_1
   obtain ⟨kq, x3_3, x4_3, rfl, rfl, HA, HJ3, BK124, HB⟩ := hcut
   cases kq with
   | zero => exact absurd HA.out (by simp [money_Text.j0])
   | succ kj3 =>
    have H := HA.out
    clear HA
    simp only [money_Text.j0] at H
    replace H := Option.bind_eq_some_iff.mp H
    obtain ⟨t126, A100, H⟩ := H
    replace H : ((strconv_FormatInt.f x4_3 10).bind fun t127 => (if t126 = 0 then (if a0_0.size + 1 ≤ 9223372036854775807 then (if (a0_0 ++ (⟨#[32]⟩ : ByteArray)).size + x3_3.size ≤ 9223372036854775807 then (if ((a0_0 ++ (⟨#[32]⟩ : ByteArray)) ++ x3_3).size + t127.size ≤ 9223372036854775807 then (some (((a0_0 ++ (⟨#[32]⟩ : ByteArray)) ++ x3_3) ++ t127)) else (none)) else (none)) else (none)) else (if (wrap64 ((wrap64 (t126 + 1)) - (t127.size : Int))) > 0 then ((strings_Repeat.f (⟨#[48]⟩ : ByteArray) (wrap64 ((wrap64 (t126 + 1)) - (t127.size : Int)))).bind fun t128 => (if t128.size + t127.size ≤ 9223372036854775807 then (if a0_0.size + 1 ≤ 9223372036854775807 then (if (a0_0 ++ (⟨#[32]⟩ : ByteArray)).size + x3_3.size ≤ 9223372036854775807 then (if 0 ≤ (wrap64 (((t128 ++ t127).size : Int) - t126)) then (if (wrap64 (((t128 ++ t127).size : Int) - t126)) ≤ ((t128 ++ t127).size : Int) then (if ((a0_0 ++ (⟨#[32]⟩ : ByteArray)) ++ x3_3).size + ((t128 ++ t127).extract 0 ((wrap64 (((t128 ++ t127).size : Int) - t126)) : Int).toNat).size ≤ 9223372036854775807 then (if (((a0_0 ++ (⟨#[32]⟩ : ByteArray)) ++ x3_3) ++ ((t128 ++ t127).extract 0 ((wrap64 (((t128 ++ t127).size : Int) - t126)) : Int).toNat)).size + 1 ≤ 9223372036854775807 then (if ((((a0_0 ++ (⟨#[32]⟩ : ByteArray)) ++ x3_3) ++ ((t128 ++ t127).extract 0 ((wrap64 (((t128 ++ t127).size : Int) - t126)) : Int).toNat)) ++ (⟨#[46]⟩ : ByteArray)).size + ((t128 ++ t127).extract ((wrap64 (((t128 ++ t127).size : Int) - t126)) : Int).toNat (t128 ++ t127).size).size ≤ 9223372036854775807 then (some (((((a0_0 ++ (⟨#[32]⟩ : ByteArray)) ++ x3_3) ++ ((t128 ++ t127).extract 0 ((wrap64 (((t128 ++ t127).size : Int) - t126)) : Int).toNat)) ++ (⟨#[46]⟩ : ByteArray)) ++ ((t128 ++ t127).extract ((wrap64 (((t128 ++ t127).size : Int) - t126)) : Int).toNat (t128 ++ t127).size))) else (none)) else (none)) else (none)) else (none)) else (none)) else (none)) else (none)) else (none))) else (if a0_0.size + 1 ≤ 9223372036854775807 then (if (a0_0 ++ (⟨#[32]⟩ : ByteArray)).size + x3_3.size ≤ 9223372036854775807 then (if 0 ≤ (wrap64 ((t127.size : Int) - t126)) then (if (wrap64 ((t127.size : Int) - t126)) ≤ (t127.size : Int) then (if ((a0_0 ++ (⟨#[32]⟩ : ByteArray)) ++ x3_3).size + (t127.extract 0 ((wrap64 ((t127.size : Int) - t126)) : Int).toNat).size ≤ 9223372036854775807 then (if (((a0_0 ++ (⟨#[32]⟩ : ByteArray)) ++ x3_3) ++ (t127.extract 0 ((wrap64 ((t127.size : Int) - t126)) : Int).toNat)).size + 1 ≤ 9223372036854775807 then (if ((((a0_0 ++ (⟨#[32]⟩ : ByteArray)) ++ x3_3) ++ (t127.extract 0 ((wrap64 ((t127.size : Int) - t126)) : Int).toNat)) ++ (⟨#[46]⟩ : ByteArray)).size + (t127.extract ((wrap64 ((t127.size : Int) - t126)) : Int).toNat t127.size).size ≤ 9223372036854775807 then (some (((((a0_0 ++ (⟨#[32]⟩ : ByteArray)) ++ x3_3) ++ (t127.extract 0 ((wrap64 ((t127.size : Int) - t126)) : Int).toNat)) ++ (⟨#[46]⟩ : ByteArray)) ++ (t127.extract ((wrap64 ((t127.size : Int) - t126)) : Int).toNat t127.size))) else (none)) else (none)) else (none)) else (none)) else (none)) else (none)) else (none))))) = some r := H
    have A10 := Aside0.mk A100
    clear A100
    replace H := Option.bind_eq_some_iff.mp H
    obtain ⟨t127, A110, H⟩ := H
    replace H : (if t126 = 0 then (if a0_0.size + 1 ≤ 9223372036854775807 then (if (a0_0 ++ (⟨#[32]⟩ : ByteArray)).size + x3_3.size ≤ 9223372036854775807 then (if ((a0_0 ++ (⟨#[32]⟩ : ByteArray)) ++ x3_3).size + t127.size ≤ 9223372036854775807 then (some (((a0_0 ++ (⟨#[32]⟩ : ByteArray)) ++ x3_3) ++ t127)) else (none)) else (none)) else (none)) else (if (wrap64 ((wrap64 (t126 + 1)) - (t127.size : Int))) > 0 then ((strings_Repeat.f (⟨#[48]⟩ : ByteArray) (wrap64 ((wrap64 (t126 + 1)) - (t127.size : Int)))).bind fun t128 => (if t128.size + t127.size ≤ 9223372036854775807 then (if a0_0.size + 1 ≤ 9223372036854775807 then (if (a0_0 ++ (⟨#[32]⟩ : ByteArray)).size + x3_3.size ≤ 9223372036854775807 then (if 0 ≤ (wrap64 (((t128 ++ t127).size : Int) - t126)) then (if (wrap64 (((t128 ++ t127).size : Int) - t126)) ≤ ((t128 ++ t127).size : Int) then (if ((a0_0 ++ (⟨#[32]⟩ : ByteArray)) ++ x3_3).size + ((t128 ++ t127).extract 0 ((wrap64 (((t128 ++ t127).size : Int) - t126)) : Int).toNat).size ≤ 9223372036854775807 then (if (((a0_0 ++ (⟨#[32]⟩ : ByteArray)) ++ x3_3) ++ ((t128 ++ t127).extract 0 ((wrap64 (((t128 ++ t127).size : Int) - t126)) : Int).toNat)).size + 1 ≤ 9223372036854775807 then (if ((((a0_0 ++ (⟨#[32]⟩ : ByteArray)) ++ x3_3) ++ ((t128 ++ t127).extract 0 ((wrap64 (((t128 ++ t127).size : Int) - t126)) : Int).toNat)) ++ (⟨#[46]⟩ : ByteArray)).size + ((t128 ++ t127).extract ((wrap64 (((t128 ++ t127).size : Int) - t126)) : Int).toNat (t128 ++ t127).size).size ≤ 9223372036854775807 then (some (((((a0_0 ++ (⟨#[32]⟩ : ByteArray)) ++ x3_3) ++ ((t128 ++ t127).extract 0 ((wrap64 (((t128 ++ t127).size : Int) - t126)) : Int).toNat)) ++ (⟨#[46]⟩ : ByteArray)) ++ ((t128 ++ t127).extract ((wrap64 (((t128 ++ t127).size : Int) - t126)) : Int).toNat (t128 ++ t127).size))) else (none)) else (none)) else (none)) else (none)) else (none)) else (none)) else (none)) else (none))) else (if a0_0.size + 1 ≤ 9223372036854775807 then (if (a0_0 ++ (⟨#[32]⟩ : ByteArray)).size + x3_3.size ≤ 9223372036854775807 then (if 0 ≤ (wrap64 ((t127.size : Int) - t126)) then (if (wrap64 ((t127.size : Int) - t126)) ≤ (t127.size : Int) then (if ((a0_0 ++ (⟨#[32]⟩ : ByteArray)) ++ x3_3).size + (t127.extract 0 ((wrap64 ((t127.size : Int) - t126)) : Int).toNat).size ≤ 9223372036854775807 then (if (((a0_0 ++ (⟨#[32]⟩ : ByteArray)) ++ x3_3) ++ (t127.extract 0 ((wrap64 ((t127.size : Int) - t126)) : Int).toNat)).size + 1 ≤ 9223372036854775807 then (if ((((a0_0 ++ (⟨#[32]⟩ : ByteArray)) ++ x3_3) ++ (t127.extract 0 ((wrap64 ((t127.size : Int) - t126)) : Int).toNat)) ++ (⟨#[46]⟩ : ByteArray)).size + (t127.extract ((wrap64 ((t127.size : Int) - t126)) : Int).toNat t127.size).size ≤ 9223372036854775807 then (some (((((a0_0 ++ (⟨#[32]⟩ : ByteArray)) ++ x3_3) ++ (t127.extract 0 ((wrap64 ((t127.size : Int) - t126)) : Int).toNat)) ++ (⟨#[46]⟩ : ByteArray)) ++ (t127.extract ((wrap64 ((t127.size : Int) - t126)) : Int).toNat t127.size))) else (none)) else (none)) else (none)) else (none)) else (none)) else (none)) else (none)))) = some r := H
    have A11 := Aside0.mk A110
    clear A110
    by_cases c12 : t126 = 0
    ·rw [if_pos c12] at H
     have c12b0 : (t126 == 0) = true := beq_iff_eq.mpr c12
     have c12b1 : (t126 != 0) = false := bne_eq_false_iff_eq.mpr c12
     clear c12
     by_cases c13 : a0_0.size + 1 ≤ 9223372036854775807
     ·rw [if_pos c13] at H
      have c13b0 := eq_true c13
      have c13b1 : decide (a0_0.size + 1 ≤ 9223372036854775807) = true := decide_eq_true c13
      try have c13b2 : (9223372036854775807 < a0_0.size + 1) = False := eq_false (Nat.not_lt.2 c13)
      by_cases c14 : (a0_0 ++ (⟨#[32]⟩ : ByteArray)).size + x3_3.size ≤ 9223372036854775807
      ·rw [if_pos c14] at H
       have c14b0 := eq_true c14
       have c14b1 : decide ((a0_0 ++ (⟨#[32]⟩ : ByteArray)).size + x3_3.size ≤ 9223372036854775807) = true := decide_eq_true c14
       try have c14b2 : (9223372036854775807 < (a0_0 ++ (⟨#[32]⟩ : ByteArray)).size + x3_3.size) = False := eq_false (Nat.not_lt.2 c14)
       try (have c14b3 := c14; simp [ByteArray.size_append, PrintScope.size_mk] at c14b3)
       try (have c14b4 := eq_false (Nat.not_lt.2 c14b3))
       by_cases c15 : ((a0_0 ++ (⟨#[32]⟩ : ByteArray)) ++ x3_3).size + t127.size ≤ 9223372036854775807
       ·rw [if_pos c15] at H
        have c15b0 := eq_true c15
        have c15b1 : decide (((a0_0 ++ (⟨#[32]⟩ : ByteArray)) ++ x3_3).size + t127.size ≤ 9223372036854775807) = true := decide_eq_true c15
        try have c15b2 : (9223372036854775807 < ((a0_0 ++ (⟨#[32]⟩ : ByteArray)) ++ x3_3).size + t127.size) = False := eq_false (Nat.not_lt.2 c15)
        try (have c15b3 := c15; simp [ByteArray.size_append, PrintScope.size_mk] at c15b3)
        try (have c15b4 := eq_false (Nat.not_lt.2 c15b3))
        obtain rfl := Option.some.inj H
        have hcz16_0 : wc.cell? ⟨gb124, 0, none⟩ = some (.string a0_0) := (blk_cell BK124.out 0).trans rfl
        have hcz16_1 : wc.cell? ⟨gb124, 1, none⟩ = some (.int .i64 a0_1) := (blk_cell BK124.out 1).trans rfl
        have hfz16_0 := blk_frozen BK124.out 0
        have hfz16_1 := blk_frozen BK124.out 1
        go_wp2_with (first | (go_at_call 35; (with_reducible refine (money_digits.calls kj3 a0_0 t126 _ A10.out).mono ?_); rintro e w' ⟨rfl, ⟨nd, rfl⟩⟩; (try first | exact ⟨rfl, _, World.drewN_drewN _ _ _⟩ | exact ⟨rfl, _, Eq.trans (World.drewN_drewN _ _ _) (congrArg (World.drewN _) (Nat.add_assoc _ _ _))⟩)) | (go_at_call 36; (with_reducible refine (strconv_FormatInt.calls x4_3 10 t127 _ ?side1 A11.out).mono ?_); (case side1 => repeat (first | exact HT.out | exact Tabs_below HT.out (by repeat (first | (with_reducible first | exact HB.out | apply below_alloc | apply pw_below_drewN | apply below_drew1 | refine below_set ?_ GE124.out) | exact HB.out)) | (with_reducible refine Tabs_drewN ?_ _) | (with_reducible refine Tabs_drew ?_))); rintro e w17 ⟨rfl, hb⟩; have n0_ := Aside0.mk (blk_below (g := gb124) (o := .cells #[.string a0_0, .int .i64 a0_1] 23 (0, 0)) (by (with_reducible repeat (first | refine blk_drewN ?_ _ | refine blk_drew ?_ | refine blk_alloc ?_ _)); exact BK124.out) hb); have n1_ := Aside0.mk (below_step (by repeat (first | (with_reducible first | exact HB.out | apply below_alloc | apply pw_below_drewN | apply below_drew1 | refine below_set ?_ GE124.out) | exact HB.out)) hb); clear BK124; clear HB; have BK124 := n0_; have HB := n1_; clear n0_ n1_; (try clear hb); (try clear hb2); (try clear hk); (try clear hi); have hcz18_0 : w17.cell? ⟨gb124, 0, none⟩ = some (.string a0_0) := (blk_cell BK124.out 0).trans rfl; have hcz18_1 : w17.cell? ⟨gb124, 1, none⟩ = some (.int .i64 a0_1) := (blk_cell BK124.out 1).trans rfl; have hfz18_0 := blk_frozen BK124.out 0; have hfz18_1 := blk_frozen BK124.out 1))
        repeat (go_quiet (first | (go_at_call 35; (with_reducible refine (money_digits.calls kj3 a0_0 t126 _ A10.out).mono ?_); rintro e w' ⟨rfl, ⟨nd, rfl⟩⟩; (try first | exact ⟨rfl, _, World.drewN_drewN _ _ _⟩ | exact ⟨rfl, _, Eq.trans (World.drewN_drewN _ _ _) (congrArg (World.drewN _) (Nat.add_assoc _ _ _))⟩)) | (go_at_call 36; (with_reducible refine (strconv_FormatInt.calls x4_3 10 t127 _ ?side1 A11.out).mono ?_); (case side1 => repeat (first | exact HT.out | exact Tabs_below HT.out (by repeat (first | (with_reducible first | exact HB.out | apply below_alloc | apply pw_below_drewN | apply below_drew1 | refine below_set ?_ GE124.out) | exact HB.out)) | (with_reducible refine Tabs_drewN ?_ _) | (with_reducible refine Tabs_drew ?_))); rintro e w17 ⟨rfl, hb⟩; have n0_ := Aside0.mk (blk_below (g := gb124) (o := .cells #[.string a0_0, .int .i64 a0_1] 23 (0, 0)) (by (with_reducible repeat (first | refine blk_drewN ?_ _ | refine blk_drew ?_ | refine blk_alloc ?_ _)); exact BK124.out) hb); have n1_ := Aside0.mk (below_step (by repeat (first | (with_reducible first | exact HB.out | apply below_alloc | apply pw_below_drewN | apply below_drew1 | refine below_set ?_ GE124.out) | exact HB.out)) hb); clear BK124; clear HB; have BK124 := n0_; have HB := n1_; clear n0_ n1_; (try clear hb); (try clear hb2); (try clear hk); (try clear hi); have hcz18_0 : w17.cell? ⟨gb124, 0, none⟩ = some (.string a0_0) := (blk_cell BK124.out 0).trans rfl; have hcz18_1 : w17.cell? ⟨gb124, 1, none⟩ = some (.int .i64 a0_1) := (blk_cell BK124.out 1).trans rfl; have hfz18_0 := blk_frozen BK124.out 0; have hfz18_1 := blk_frozen BK124.out 1)); try go_wp2_with (first | (go_at_call 35; (with_reducible refine (money_digits.calls kj3 a0_0 t126 _ A10.out).mono ?_); rintro e w' ⟨rfl, ⟨nd, rfl⟩⟩; (try first | exact ⟨rfl, _, World.drewN_drewN _ _ _⟩ | exact ⟨rfl, _, Eq.trans (World.drewN_drewN _ _ _) (congrArg (World.drewN _) (Nat.add_assoc _ _ _))⟩)) | (go_at_call 36; (with_reducible refine (strconv_FormatInt.calls x4_3 10 t127 _ ?side1 A11.out).mono ?_); (case side1 => repeat (first | exact HT.out | exact Tabs_below HT.out (by repeat (first | (with_reducible first | exact HB.out | apply below_alloc | apply pw_below_drewN | apply below_drew1 | refine below_set ?_ GE124.out) | exact HB.out)) | (with_reducible refine Tabs_drewN ?_ _) | (with_reducible refine Tabs_drew ?_))); rintro e w17 ⟨rfl, hb⟩; have n0_ := Aside0.mk (blk_below (g := gb124) (o := .cells #[.string a0_0, .int .i64 a0_1] 23 (0, 0)) (by (with_reducible repeat (first | refine blk_drewN ?_ _ | refine blk_drew ?_ | refine blk_alloc ?_ _)); exact BK124.out) hb); have n1_ := Aside0.mk (below_step (by repeat (first | (with_reducible first | exact HB.out | apply below_alloc | apply pw_below_drewN | apply below_drew1 | refine below_set ?_ GE124.out) | exact HB.out)) hb); clear BK124; clear HB; have BK124 := n0_; have HB := n1_; clear n0_ n1_; (try clear hb); (try clear hb2); (try clear hk); (try clear hi); have hcz18_0 : w17.cell? ⟨gb124, 0, none⟩ = some (.string a0_0) := (blk_cell BK124.out 0).trans rfl; have hcz18_1 : w17.cell? ⟨gb124, 1, none⟩ = some (.int .i64 a0_1) := (blk_cell BK124.out 1).trans rfl; have hfz18_0 := blk_frozen BK124.out 0; have hfz18_1 := blk_frozen BK124.out 1)))
        go_ret
        exact ⟨by first | rfl | (simp [errW_none, errW_some] <;> rfl) | (simp [*, errW_none, errW_some] <;> rfl), by repeat (first | (with_reducible first | exact HB.out | apply below_alloc | apply pw_below_drewN | apply below_drew1 | refine below_set ?_ GE124.out) | exact HB.out)⟩
       ·rw [if_neg c15] at H
        exact absurd H (by simp)
      ·rw [if_neg c14] at H
       exact absurd H (by simp)
     ·rw [if_neg c13] at H
      exact absurd H (by simp)
    ·rw [if_neg c12] at H
     have c12b0 : (t126 == 0) = false := beq_eq_false_iff_ne.mpr c12
     have c12b1 : (t126 != 0) = true := bne_iff_ne.mpr c12
     by_cases c19 : (wrap64 ((wrap64 (t126 + 1)) - (t127.size : Int))) > 0
     ·rw [if_pos c19] at H
      have c19b0 : decide (0 < (wrap64 ((wrap64 (t126 + 1)) - (t127.size : Int)))) = true := decide_eq_true c19
      clear c19
      replace H := Option.bind_eq_some_iff.mp H
      obtain ⟨t128, A200, H⟩ := H
      replace H : (if t128.size + t127.size ≤ 9223372036854775807 then (if a0_0.size + 1 ≤ 9223372036854775807 then (if (a0_0 ++ (⟨#[32]⟩ : ByteArray)).size + x3_3.size ≤ 9223372036854775807 then (if 0 ≤ (wrap64 (((t128 ++ t127).size : Int) - t126)) then (if (wrap64 (((t128 ++ t127).size : Int) - t126)) ≤ ((t128 ++ t127).size : Int) then (if ((a0_0 ++ (⟨#[32]⟩ : ByteArray)) ++ x3_3).size + ((t128 ++ t127).extract 0 ((wrap64 (((t128 ++ t127).size : Int) - t126)) : Int).toNat).size ≤ 9223372036854775807 then (if (((a0_0 ++ (⟨#[32]⟩ : ByteArray)) ++ x3_3) ++ ((t128 ++ t127).extract 0 ((wrap64 (((t128 ++ t127).size : Int) - t126)) : Int).toNat)).size + 1 ≤ 9223372036854775807 then (if ((((a0_0 ++ (⟨#[32]⟩ : ByteArray)) ++ x3_3) ++ ((t128 ++ t127).extract 0 ((wrap64 (((t128 ++ t127).size : Int) - t126)) : Int).toNat)) ++ (⟨#[46]⟩ : ByteArray)).size + ((t128 ++ t127).extract ((wrap64 (((t128 ++ t127).size : Int) - t126)) : Int).toNat (t128 ++ t127).size).size ≤ 9223372036854775807 then (some (((((a0_0 ++ (⟨#[32]⟩ : ByteArray)) ++ x3_3) ++ ((t128 ++ t127).extract 0 ((wrap64 (((t128 ++ t127).size : Int) - t126)) : Int).toNat)) ++ (⟨#[46]⟩ : ByteArray)) ++ ((t128 ++ t127).extract ((wrap64 (((t128 ++ t127).size : Int) - t126)) : Int).toNat (t128 ++ t127).size))) else (none)) else (none)) else (none)) else (none)) else (none)) else (none)) else (none)) else (none)) = some r := H
      have A20 := Aside0.mk A200
      clear A200
      by_cases c21 : t128.size + t127.size ≤ 9223372036854775807
      ·rw [if_pos c21] at H
       have c21b0 := eq_true c21
       have c21b1 : decide (t128.size + t127.size ≤ 9223372036854775807) = true := decide_eq_true c21
       try have c21b2 : (9223372036854775807 < t128.size + t127.size) = False := eq_false (Nat.not_lt.2 c21)
       by_cases c22 : a0_0.size + 1 ≤ 9223372036854775807
       ·rw [if_pos c22] at H
        have c22b0 := eq_true c22
        have c22b1 : decide (a0_0.size + 1 ≤ 9223372036854775807) = true := decide_eq_true c22
        try have c22b2 : (9223372036854775807 < a0_0.size + 1) = False := eq_false (Nat.not_lt.2 c22)
        by_cases c23 : (a0_0 ++ (⟨#[32]⟩ : ByteArray)).size + x3_3.size ≤ 9223372036854775807
        ·rw [if_pos c23] at H
         have c23b0 := eq_true c23
         have c23b1 : decide ((a0_0 ++ (⟨#[32]⟩ : ByteArray)).size + x3_3.size ≤ 9223372036854775807) = true := decide_eq_true c23
         try have c23b2 : (9223372036854775807 < (a0_0 ++ (⟨#[32]⟩ : ByteArray)).size + x3_3.size) = False := eq_false (Nat.not_lt.2 c23)
         try (have c23b3 := c23; simp [ByteArray.size_append, PrintScope.size_mk] at c23b3)
         try (have c23b4 := eq_false (Nat.not_lt.2 c23b3))
         obtain ⟨ji24, hji24⟩ : ∃ j_ : Int, (wrap64 (((t128 ++ t127).size : Int) - t126)) = j_ := ⟨_, rfl⟩
         replace H : (if 0 ≤ (ji24) then (if (ji24) ≤ ((t128 ++ t127).size : Int) then (if ((a0_0 ++ (⟨#[32]⟩ : ByteArray)) ++ x3_3).size + ((t128 ++ t127).extract 0 ((ji24) : Int).toNat).size ≤ 9223372036854775807 then (if (((a0_0 ++ (⟨#[32]⟩ : ByteArray)) ++ x3_3) ++ ((t128 ++ t127).extract 0 ((ji24) : Int).toNat)).size + 1 ≤ 9223372036854775807 then (if ((((a0_0 ++ (⟨#[32]⟩ : ByteArray)) ++ x3_3) ++ ((t128 ++ t127).extract 0 ((ji24) : Int).toNat)) ++ (⟨#[46]⟩ : ByteArray)).size + ((t128 ++ t127).extract ((ji24) : Int).toNat (t128 ++ t127).size).size ≤ 9223372036854775807 then (some (((((a0_0 ++ (⟨#[32]⟩ : ByteArray)) ++ x3_3) ++ ((t128 ++ t127).extract 0 ((ji24) : Int).toNat)) ++ (⟨#[46]⟩ : ByteArray)) ++ ((t128 ++ t127).extract ((ji24) : Int).toNat (t128 ++ t127).size))) else (none)) else (none)) else (none)) else (none)) else (none)) = some r := by first | (rw [hji24] at H; exact H) | (simp only [hji24] at H ⊢; exact H)
         (try rw [hji24] at A10)
         (try rw [hji24] at A11)
         (try rw [hji24] at A20)
         have hji24w : (IntKind.i64.wrap (((t128 ++ t127).size : Int) - t126)) = ji24 := (i64_w _).trans hji24
         try (have hji24s := hji24; simp [ByteArray.size_append] at hji24s)
         try (have hji24v := hji24w; simp [ByteArray.size_append] at hji24v)
         by_cases c25 : 0 ≤ (ji24)
         ·rw [if_pos c25] at H
          have c25b0 := eq_true c25
          have c25b1 : decide (0 ≤ (ji24)) = true := decide_eq_true c25
          clear c25
          by_cases c26 : (ji24) ≤ ((t128 ++ t127).size : Int)
          ·rw [if_pos c26] at H
           have c26b0 := eq_true c26
           have c26b1 : decide ((ji24) ≤ ((t128 ++ t127).size : Int)) = true := decide_eq_true c26
           try (have c26b5 := c26; simp [ByteArray.size_append, PrintScope.size_mk] at c26b5)
           by_cases c27 : ((a0_0 ++ (⟨#[32]⟩ : ByteArray)) ++ x3_3).size + ((t128 ++ t127).extract 0 ((ji24) : Int).toNat).size ≤ 9223372036854775807
           ·rw [if_pos c27] at H
            have c27b0 := eq_true c27
            have c27b1 : decide (((a0_0 ++ (⟨#[32]⟩ : ByteArray)) ++ x3_3).size + ((t128 ++ t127).extract 0 ((ji24) : Int).toNat).size ≤ 9223372036854775807) = true := decide_eq_true c27
            try have c27b2 : (9223372036854775807 < ((a0_0 ++ (⟨#[32]⟩ : ByteArray)) ++ x3_3).size + ((t128 ++ t127).extract 0 ((ji24) : Int).toNat).size) = False := eq_false (Nat.not_lt.2 c27)
            try (have c27b3 := c27; simp [ByteArray.size_append, PrintScope.size_mk] at c27b3)
            try (have c27hm : min (ji24).toNat (t128 ++ t127).size = (ji24).toNat := Nat.min_eq_left (Int.toNat_le.2 (of_decide_eq_true (by assumption : decide ((ji24) ≤ ((t128 ++ t127).size : Int)) = true))); (try simp only [ByteArray.size_append] at c27hm); simp only [c27hm] at c27b3)
            try (have c27b4 := eq_false (Nat.not_lt.2 c27b3))
            by_cases c28 : (((a0_0 ++ (⟨#[32]⟩ : ByteArray)) ++ x3_3) ++ ((t128 ++ t127).extract 0 ((ji24) : Int).toNat)).size + 1 ≤ 9223372036854775807
            ·rw [if_pos c28] at H
             have c28b0 := eq_true c28
             have c28b1 : decide ((((a0_0 ++ (⟨#[32]⟩ : ByteArray)) ++ x3_3) ++ ((t128 ++ t127).extract 0 ((ji24) : Int).toNat)).size + 1 ≤ 9223372036854775807) = true := decide_eq_true c28
             try have c28b2 : (9223372036854775807 < (((a0_0 ++ (⟨#[32]⟩ : ByteArray)) ++ x3_3) ++ ((t128 ++ t127).extract 0 ((ji24) : Int).toNat)).size + 1) = False := eq_false (Nat.not_lt.2 c28)
             try (have c28b3 := c28; simp [ByteArray.size_append, PrintScope.size_mk] at c28b3)
             try (have c28hm : min (ji24).toNat (t128 ++ t127).size = (ji24).toNat := Nat.min_eq_left (Int.toNat_le.2 (of_decide_eq_true (by assumption : decide ((ji24) ≤ ((t128 ++ t127).size : Int)) = true))); (try simp only [ByteArray.size_append] at c28hm); simp only [c28hm] at c28b3)
             try (have c28b4 := eq_false (Nat.not_lt.2 c28b3))
             have c29b0 := eq_true (of_decide_eq_true (by first | (with_reducible assumption) | assumption) : 0 ≤ (ji24))
             have c30b0 := eq_true (of_decide_eq_true (by first | (with_reducible assumption) | assumption) : (ji24) ≤ ((t128 ++ t127).size : Int))
             by_cases c31 : ((((a0_0 ++ (⟨#[32]⟩ : ByteArray)) ++ x3_3) ++ ((t128 ++ t127).extract 0 ((ji24) : Int).toNat)) ++ (⟨#[46]⟩ : ByteArray)).size + ((t128 ++ t127).extract ((ji24) : Int).toNat (t128 ++ t127).size).size ≤ 9223372036854775807
             ·rw [if_pos c31] at H
              have c31b0 := eq_true c31
              have c31b1 : decide (((((a0_0 ++ (⟨#[32]⟩ : ByteArray)) ++ x3_3) ++ ((t128 ++ t127).extract 0 ((ji24) : Int).toNat)) ++ (⟨#[46]⟩ : ByteArray)).size + ((t128 ++ t127).extract ((ji24) : Int).toNat (t128 ++ t127).size).size ≤ 9223372036854775807) = true := decide_eq_true c31
              try have c31b2 : (9223372036854775807 < ((((a0_0 ++ (⟨#[32]⟩ : ByteArray)) ++ x3_3) ++ ((t128 ++ t127).extract 0 ((ji24) : Int).toNat)) ++ (⟨#[46]⟩ : ByteArray)).size + ((t128 ++ t127).extract ((ji24) : Int).toNat (t128 ++ t127).size).size) = False := eq_false (Nat.not_lt.2 c31)
              try (have c31b3 := c31; simp [ByteArray.size_append, PrintScope.size_mk] at c31b3)
              try (have c31hm : min (ji24).toNat (t128 ++ t127).size = (ji24).toNat := Nat.min_eq_left (Int.toNat_le.2 (of_decide_eq_true (by assumption : decide ((ji24) ≤ ((t128 ++ t127).size : Int)) = true))); (try simp only [ByteArray.size_append] at c31hm); simp only [c31hm] at c31b3)
              try (have c31b4 := eq_false (Nat.not_lt.2 c31b3))
              obtain rfl := Option.some.inj H
              have hcz32_0 : wc.cell? ⟨gb124, 0, none⟩ = some (.string a0_0) := (blk_cell BK124.out 0).trans rfl
              have hcz32_1 : wc.cell? ⟨gb124, 1, none⟩ = some (.int .i64 a0_1) := (blk_cell BK124.out 1).trans rfl
              have hfz32_0 := blk_frozen BK124.out 0
              have hfz32_1 := blk_frozen BK124.out 1
              go_wp2_with (first | (go_at_call 35; (with_reducible refine (money_digits.calls kj3 a0_0 t126 _ A10.out).mono ?_); rintro e w' ⟨rfl, ⟨nd, rfl⟩⟩; (try first | exact ⟨rfl, _, World.drewN_drewN _ _ _⟩ | exact ⟨rfl, _, Eq.trans (World.drewN_drewN _ _ _) (congrArg (World.drewN _) (Nat.add_assoc _ _ _))⟩)) | (go_at_call 36; (with_reducible refine (strconv_FormatInt.calls x4_3 10 t127 _ ?side1 A11.out).mono ?_); (case side1 => repeat (first | exact HT.out | exact Tabs_below HT.out (by repeat (first | (with_reducible first | exact HB.out | apply below_alloc | apply pw_below_drewN | apply below_drew1 | refine below_set ?_ GE124.out) | exact HB.out)) | (with_reducible refine Tabs_drewN ?_ _) | (with_reducible refine Tabs_drew ?_))); rintro e w33 ⟨rfl, hb⟩; have n0_ := Aside0.mk (blk_below (g := gb124) (o := .cells #[.string a0_0, .int .i64 a0_1] 23 (0, 0)) (by (with_reducible repeat (first | refine blk_drewN ?_ _ | refine blk_drew ?_ | refine blk_alloc ?_ _)); exact BK124.out) hb); have n1_ := Aside0.mk (below_step (by repeat (first | (with_reducible first | exact HB.out | apply below_alloc | apply pw_below_drewN | apply below_drew1 | refine below_set ?_ GE124.out) | exact HB.out)) hb); clear BK124; clear HB; have BK124 := n0_; have HB := n1_; clear n0_ n1_; (try clear hb); (try clear hb2); (try clear hk); (try clear hi)) | (go_at_call 37; (with_reducible refine (strings_Repeat.calls (⟨#[48]⟩ : ByteArray) (wrap64 ((wrap64 (t126 + 1)) - (t127.size : Int))) t128 _ A20.out).mono ?_); rintro e w34 ⟨rfl, hb⟩; have n0_ := Aside0.mk (blk_below (g := gb124) (o := .cells #[.string a0_0, .int .i64 a0_1] 23 (0, 0)) (by (with_reducible repeat (first | refine blk_drewN ?_ _ | refine blk_drew ?_ | refine blk_alloc ?_ _)); exact BK124.out) hb); have n1_ := Aside0.mk (below_step (by repeat (first | (with_reducible first | exact HB.out | apply below_alloc | apply pw_below_drewN | apply below_drew1 | refine below_set ?_ GE124.out) | exact HB.out)) hb); clear BK124; clear HB; have BK124 := n0_; have HB := n1_; clear n0_ n1_; (try clear hb); (try clear hb2); (try clear hk); (try clear hi); have hcz35_0 : w34.cell? ⟨gb124, 0, none⟩ = some (.string a0_0) := (blk_cell BK124.out 0).trans rfl; have hcz35_1 : w34.cell? ⟨gb124, 1, none⟩ = some (.int .i64 a0_1) := (blk_cell BK124.out 1).trans rfl; have hfz35_0 := blk_frozen BK124.out 0; have hfz35_1 := blk_frozen BK124.out 1))
              repeat (go_quiet (first | (go_at_call 35; (with_reducible refine (money_digits.calls kj3 a0_0 t126 _ A10.out).mono ?_); rintro e w' ⟨rfl, ⟨nd, rfl⟩⟩; (try first | exact ⟨rfl, _, World.drewN_drewN _ _ _⟩ | exact ⟨rfl, _, Eq.trans (World.drewN_drewN _ _ _) (congrArg (World.drewN _) (Nat.add_assoc _ _ _))⟩)) | (go_at_call 36; (with_reducible refine (strconv_FormatInt.calls x4_3 10 t127 _ ?side1 A11.out).mono ?_); (case side1 => repeat (first | exact HT.out | exact Tabs_below HT.out (by repeat (first | (with_reducible first | exact HB.out | apply below_alloc | apply pw_below_drewN | apply below_drew1 | refine below_set ?_ GE124.out) | exact HB.out)) | (with_reducible refine Tabs_drewN ?_ _) | (with_reducible refine Tabs_drew ?_))); rintro e w33 ⟨rfl, hb⟩; have n0_ := Aside0.mk (blk_below (g := gb124) (o := .cells #[.string a0_0, .int .i64 a0_1] 23 (0, 0)) (by (with_reducible repeat (first | refine blk_drewN ?_ _ | refine blk_drew ?_ | refine blk_alloc ?_ _)); exact BK124.out) hb); have n1_ := Aside0.mk (below_step (by repeat (first | (with_reducible first | exact HB.out | apply below_alloc | apply pw_below_drewN | apply below_drew1 | refine below_set ?_ GE124.out) | exact HB.out)) hb); clear BK124; clear HB; have BK124 := n0_; have HB := n1_; clear n0_ n1_; (try clear hb); (try clear hb2); (try clear hk); (try clear hi)) | (go_at_call 37; (with_reducible refine (strings_Repeat.calls (⟨#[48]⟩ : ByteArray) (wrap64 ((wrap64 (t126 + 1)) - (t127.size : Int))) t128 _ A20.out).mono ?_); rintro e w34 ⟨rfl, hb⟩; have n0_ := Aside0.mk (blk_below (g := gb124) (o := .cells #[.string a0_0, .int .i64 a0_1] 23 (0, 0)) (by (with_reducible repeat (first | refine blk_drewN ?_ _ | refine blk_drew ?_ | refine blk_alloc ?_ _)); exact BK124.out) hb); have n1_ := Aside0.mk (below_step (by repeat (first | (with_reducible first | exact HB.out | apply below_alloc | apply pw_below_drewN | apply below_drew1 | refine below_set ?_ GE124.out) | exact HB.out)) hb); clear BK124; clear HB; have BK124 := n0_; have HB := n1_; clear n0_ n1_; (try clear hb); (try clear hb2); (try clear hk); (try clear hi); have hcz35_0 : w34.cell? ⟨gb124, 0, none⟩ = some (.string a0_0) := (blk_cell BK124.out 0).trans rfl; have hcz35_1 : w34.cell? ⟨gb124, 1, none⟩ = some (.int .i64 a0_1) := (blk_cell BK124.out 1).trans rfl; have hfz35_0 := blk_frozen BK124.out 0; have hfz35_1 := blk_frozen BK124.out 1)); try go_wp2_with (first | (go_at_call 35; (with_reducible refine (money_digits.calls kj3 a0_0 t126 _ A10.out).mono ?_); rintro e w' ⟨rfl, ⟨nd, rfl⟩⟩; (try first | exact ⟨rfl, _, World.drewN_drewN _ _ _⟩ | exact ⟨rfl, _, Eq.trans (World.drewN_drewN _ _ _) (congrArg (World.drewN _) (Nat.add_assoc _ _ _))⟩)) | (go_at_call 36; (with_reducible refine (strconv_FormatInt.calls x4_3 10 t127 _ ?side1 A11.out).mono ?_); (case side1 => repeat (first | exact HT.out | exact Tabs_below HT.out (by repeat (first | (with_reducible first | exact HB.out | apply below_alloc | apply pw_below_drewN | apply below_drew1 | refine below_set ?_ GE124.out) | exact HB.out)) | (with_reducible refine Tabs_drewN ?_ _) | (with_reducible refine Tabs_drew ?_))); rintro e w33 ⟨rfl, hb⟩; have n0_ := Aside0.mk (blk_below (g := gb124) (o := .cells #[.string a0_0, .int .i64 a0_1] 23 (0, 0)) (by (with_reducible repeat (first | refine blk_drewN ?_ _ | refine blk_drew ?_ | refine blk_alloc ?_ _)); exact BK124.out) hb); have n1_ := Aside0.mk (below_step (by repeat (first | (with_reducible first | exact HB.out | apply below_alloc | apply pw_below_drewN | apply below_drew1 | refine below_set ?_ GE124.out) | exact HB.out)) hb); clear BK124; clear HB; have BK124 := n0_; have HB := n1_; clear n0_ n1_; (try clear hb); (try clear hb2); (try clear hk); (try clear hi)) | (go_at_call 37; (with_reducible refine (strings_Repeat.calls (⟨#[48]⟩ : ByteArray) (wrap64 ((wrap64 (t126 + 1)) - (t127.size : Int))) t128 _ A20.out).mono ?_); rintro e w34 ⟨rfl, hb⟩; have n0_ := Aside0.mk (blk_below (g := gb124) (o := .cells #[.string a0_0, .int .i64 a0_1] 23 (0, 0)) (by (with_reducible repeat (first | refine blk_drewN ?_ _ | refine blk_drew ?_ | refine blk_alloc ?_ _)); exact BK124.out) hb); have n1_ := Aside0.mk (below_step (by repeat (first | (with_reducible first | exact HB.out | apply below_alloc | apply pw_below_drewN | apply below_drew1 | refine below_set ?_ GE124.out) | exact HB.out)) hb); clear BK124; clear HB; have BK124 := n0_; have HB := n1_; clear n0_ n1_; (try clear hb); (try clear hb2); (try clear hk); (try clear hi); have hcz35_0 : w34.cell? ⟨gb124, 0, none⟩ = some (.string a0_0) := (blk_cell BK124.out 0).trans rfl; have hcz35_1 : w34.cell? ⟨gb124, 1, none⟩ = some (.int .i64 a0_1) := (blk_cell BK124.out 1).trans rfl; have hfz35_0 := blk_frozen BK124.out 0; have hfz35_1 := blk_frozen BK124.out 1)))
              go_ret
              exact ⟨by first | rfl | (simp [errW_none, errW_some] <;> rfl) | (simp only [← hji24]; first | rfl | (simp [errW_none, errW_some] <;> rfl)) | (simp [*, errW_none, errW_some] <;> rfl), by repeat (first | (with_reducible first | exact HB.out | apply below_alloc | apply pw_below_drewN | apply below_drew1 | refine below_set ?_ GE124.out) | exact HB.out)⟩
             ·rw [if_neg c31] at H
              exact absurd H (by simp)
            ·rw [if_neg c28] at H
             exact absurd H (by simp)
           ·rw [if_neg c27] at H
            exact absurd H (by simp)
          ·rw [if_neg c26] at H
           exact absurd H (by simp)
         ·rw [if_neg c25] at H
          exact absurd H (by simp)
        ·rw [if_neg c23] at H
         exact absurd H (by simp)
       ·rw [if_neg c22] at H
        exact absurd H (by simp)
      ·rw [if_neg c21] at H
       exact absurd H (by simp)
     ·rw [if_neg c19] at H
      have c19b0 : decide (0 < (wrap64 ((wrap64 (t126 + 1)) - (t127.size : Int)))) = false := decide_eq_false c19
      clear c19
      by_cases c36 : a0_0.size + 1 ≤ 9223372036854775807
      ·rw [if_pos c36] at H
       have c36b0 := eq_true c36
       have c36b1 : decide (a0_0.size + 1 ≤ 9223372036854775807) = true := decide_eq_true c36
       try have c36b2 : (9223372036854775807 < a0_0.size + 1) = False := eq_false (Nat.not_lt.2 c36)
       by_cases c37 : (a0_0 ++ (⟨#[32]⟩ : ByteArray)).size + x3_3.size ≤ 9223372036854775807
       ·rw [if_pos c37] at H
        have c37b0 := eq_true c37
        have c37b1 : decide ((a0_0 ++ (⟨#[32]⟩ : ByteArray)).size + x3_3.size ≤ 9223372036854775807) = true := decide_eq_true c37
        try have c37b2 : (9223372036854775807 < (a0_0 ++ (⟨#[32]⟩ : ByteArray)).size + x3_3.size) = False := eq_false (Nat.not_lt.2 c37)
        try (have c37b3 := c37; simp [ByteArray.size_append, PrintScope.size_mk] at c37b3)
        try (have c37b4 := eq_false (Nat.not_lt.2 c37b3))
        obtain ⟨ji38, hji38⟩ : ∃ j_ : Int, (wrap64 ((t127.size : Int) - t126)) = j_ := ⟨_, rfl⟩
        replace H : (if 0 ≤ (ji38) then (if (ji38) ≤ (t127.size : Int) then (if ((a0_0 ++ (⟨#[32]⟩ : ByteArray)) ++ x3_3).size + (t127.extract 0 ((ji38) : Int).toNat).size ≤ 9223372036854775807 then (if (((a0_0 ++ (⟨#[32]⟩ : ByteArray)) ++ x3_3) ++ (t127.extract 0 ((ji38) : Int).toNat)).size + 1 ≤ 9223372036854775807 then (if ((((a0_0 ++ (⟨#[32]⟩ : ByteArray)) ++ x3_3) ++ (t127.extract 0 ((ji38) : Int).toNat)) ++ (⟨#[46]⟩ : ByteArray)).size + (t127.extract ((ji38) : Int).toNat t127.size).size ≤ 9223372036854775807 then (some (((((a0_0 ++ (⟨#[32]⟩ : ByteArray)) ++ x3_3) ++ (t127.extract 0 ((ji38) : Int).toNat)) ++ (⟨#[46]⟩ : ByteArray)) ++ (t127.extract ((ji38) : Int).toNat t127.size))) else (none)) else (none)) else (none)) else (none)) else (none)) = some r := by first | (rw [hji38] at H; exact H) | (simp only [hji38] at H ⊢; exact H)
        (try rw [hji38] at A10)
        (try rw [hji38] at A11)
        have hji38w : (IntKind.i64.wrap ((t127.size : Int) - t126)) = ji38 := (i64_w _).trans hji38
        by_cases c39 : 0 ≤ (ji38)
        ·rw [if_pos c39] at H
         have c39b0 := eq_true c39
         have c39b1 : decide (0 ≤ (ji38)) = true := decide_eq_true c39
         clear c39
         by_cases c40 : (ji38) ≤ (t127.size : Int)
         ·rw [if_pos c40] at H
          have c40b0 := eq_true c40
          have c40b1 : decide ((ji38) ≤ (t127.size : Int)) = true := decide_eq_true c40
          clear c40
          by_cases c41 : ((a0_0 ++ (⟨#[32]⟩ : ByteArray)) ++ x3_3).size + (t127.extract 0 ((ji38) : Int).toNat).size ≤ 9223372036854775807
          ·rw [if_pos c41] at H
           have c41b0 := eq_true c41
           have c41b1 : decide (((a0_0 ++ (⟨#[32]⟩ : ByteArray)) ++ x3_3).size + (t127.extract 0 ((ji38) : Int).toNat).size ≤ 9223372036854775807) = true := decide_eq_true c41
           try have c41b2 : (9223372036854775807 < ((a0_0 ++ (⟨#[32]⟩ : ByteArray)) ++ x3_3).size + (t127.extract 0 ((ji38) : Int).toNat).size) = False := eq_false (Nat.not_lt.2 c41)
           try (have c41b3 := c41; simp [ByteArray.size_append, PrintScope.size_mk] at c41b3)
           try (have c41hm : min (ji38).toNat t127.size = (ji38).toNat := Nat.min_eq_left (Int.toNat_le.2 (of_decide_eq_true (by assumption : decide ((ji38) ≤ (t127.size : Int)) = true))); (try simp only [ByteArray.size_append] at c41hm); simp only [c41hm] at c41b3)
           try (have c41b4 := eq_false (Nat.not_lt.2 c41b3))
           by_cases c42 : (((a0_0 ++ (⟨#[32]⟩ : ByteArray)) ++ x3_3) ++ (t127.extract 0 ((ji38) : Int).toNat)).size + 1 ≤ 9223372036854775807
           ·rw [if_pos c42] at H
            have c42b0 := eq_true c42
            have c42b1 : decide ((((a0_0 ++ (⟨#[32]⟩ : ByteArray)) ++ x3_3) ++ (t127.extract 0 ((ji38) : Int).toNat)).size + 1 ≤ 9223372036854775807) = true := decide_eq_true c42
            try have c42b2 : (9223372036854775807 < (((a0_0 ++ (⟨#[32]⟩ : ByteArray)) ++ x3_3) ++ (t127.extract 0 ((ji38) : Int).toNat)).size + 1) = False := eq_false (Nat.not_lt.2 c42)
            try (have c42b3 := c42; simp [ByteArray.size_append, PrintScope.size_mk] at c42b3)
            try (have c42hm : min (ji38).toNat t127.size = (ji38).toNat := Nat.min_eq_left (Int.toNat_le.2 (of_decide_eq_true (by assumption : decide ((ji38) ≤ (t127.size : Int)) = true))); (try simp only [ByteArray.size_append] at c42hm); simp only [c42hm] at c42b3)
            try (have c42b4 := eq_false (Nat.not_lt.2 c42b3))
            have c43b0 := eq_true (of_decide_eq_true (by first | (with_reducible assumption) | assumption) : 0 ≤ (ji38))
            have c44b0 := eq_true (of_decide_eq_true (by first | (with_reducible assumption) | assumption) : (ji38) ≤ (t127.size : Int))
            by_cases c45 : ((((a0_0 ++ (⟨#[32]⟩ : ByteArray)) ++ x3_3) ++ (t127.extract 0 ((ji38) : Int).toNat)) ++ (⟨#[46]⟩ : ByteArray)).size + (t127.extract ((ji38) : Int).toNat t127.size).size ≤ 9223372036854775807
            ·rw [if_pos c45] at H
             have c45b0 := eq_true c45
             have c45b1 : decide (((((a0_0 ++ (⟨#[32]⟩ : ByteArray)) ++ x3_3) ++ (t127.extract 0 ((ji38) : Int).toNat)) ++ (⟨#[46]⟩ : ByteArray)).size + (t127.extract ((ji38) : Int).toNat t127.size).size ≤ 9223372036854775807) = true := decide_eq_true c45
             try have c45b2 : (9223372036854775807 < ((((a0_0 ++ (⟨#[32]⟩ : ByteArray)) ++ x3_3) ++ (t127.extract 0 ((ji38) : Int).toNat)) ++ (⟨#[46]⟩ : ByteArray)).size + (t127.extract ((ji38) : Int).toNat t127.size).size) = False := eq_false (Nat.not_lt.2 c45)
             try (have c45b3 := c45; simp [ByteArray.size_append, PrintScope.size_mk] at c45b3)
             try (have c45hm : min (ji38).toNat t127.size = (ji38).toNat := Nat.min_eq_left (Int.toNat_le.2 (of_decide_eq_true (by assumption : decide ((ji38) ≤ (t127.size : Int)) = true))); (try simp only [ByteArray.size_append] at c45hm); simp only [c45hm] at c45b3)
             try (have c45b4 := eq_false (Nat.not_lt.2 c45b3))
             obtain rfl := Option.some.inj H
             have hcz46_0 : wc.cell? ⟨gb124, 0, none⟩ = some (.string a0_0) := (blk_cell BK124.out 0).trans rfl
             have hcz46_1 : wc.cell? ⟨gb124, 1, none⟩ = some (.int .i64 a0_1) := (blk_cell BK124.out 1).trans rfl
             have hfz46_0 := blk_frozen BK124.out 0
             have hfz46_1 := blk_frozen BK124.out 1
             go_wp2_with (first | (go_at_call 35; (with_reducible refine (money_digits.calls kj3 a0_0 t126 _ A10.out).mono ?_); rintro e w' ⟨rfl, ⟨nd, rfl⟩⟩; (try first | exact ⟨rfl, _, World.drewN_drewN _ _ _⟩ | exact ⟨rfl, _, Eq.trans (World.drewN_drewN _ _ _) (congrArg (World.drewN _) (Nat.add_assoc _ _ _))⟩)) | (go_at_call 36; (with_reducible refine (strconv_FormatInt.calls x4_3 10 t127 _ ?side1 A11.out).mono ?_); (case side1 => repeat (first | exact HT.out | exact Tabs_below HT.out (by repeat (first | (with_reducible first | exact HB.out | apply below_alloc | apply pw_below_drewN | apply below_drew1 | refine below_set ?_ GE124.out) | exact HB.out)) | (with_reducible refine Tabs_drewN ?_ _) | (with_reducible refine Tabs_drew ?_))); rintro e w47 ⟨rfl, hb⟩; have n0_ := Aside0.mk (blk_below (g := gb124) (o := .cells #[.string a0_0, .int .i64 a0_1] 23 (0, 0)) (by (with_reducible repeat (first | refine blk_drewN ?_ _ | refine blk_drew ?_ | refine blk_alloc ?_ _)); exact BK124.out) hb); have n1_ := Aside0.mk (below_step (by repeat (first | (with_reducible first | exact HB.out | apply below_alloc | apply pw_below_drewN | apply below_drew1 | refine below_set ?_ GE124.out) | exact HB.out)) hb); clear BK124; clear HB; have BK124 := n0_; have HB := n1_; clear n0_ n1_; (try clear hb); (try clear hb2); (try clear hk); (try clear hi); have hcz48_0 : w47.cell? ⟨gb124, 0, none⟩ = some (.string a0_0) := (blk_cell BK124.out 0).trans rfl; have hcz48_1 : w47.cell? ⟨gb124, 1, none⟩ = some (.int .i64 a0_1) := (blk_cell BK124.out 1).trans rfl; have hfz48_0 := blk_frozen BK124.out 0; have hfz48_1 := blk_frozen BK124.out 1))
             repeat (go_quiet (first | (go_at_call 35; (with_reducible refine (money_digits.calls kj3 a0_0 t126 _ A10.out).mono ?_); rintro e w' ⟨rfl, ⟨nd, rfl⟩⟩; (try first | exact ⟨rfl, _, World.drewN_drewN _ _ _⟩ | exact ⟨rfl, _, Eq.trans (World.drewN_drewN _ _ _) (congrArg (World.drewN _) (Nat.add_assoc _ _ _))⟩)) | (go_at_call 36; (with_reducible refine (strconv_FormatInt.calls x4_3 10 t127 _ ?side1 A11.out).mono ?_); (case side1 => repeat (first | exact HT.out | exact Tabs_below HT.out (by repeat (first | (with_reducible first | exact HB.out | apply below_alloc | apply pw_below_drewN | apply below_drew1 | refine below_set ?_ GE124.out) | exact HB.out)) | (with_reducible refine Tabs_drewN ?_ _) | (with_reducible refine Tabs_drew ?_))); rintro e w47 ⟨rfl, hb⟩; have n0_ := Aside0.mk (blk_below (g := gb124) (o := .cells #[.string a0_0, .int .i64 a0_1] 23 (0, 0)) (by (with_reducible repeat (first | refine blk_drewN ?_ _ | refine blk_drew ?_ | refine blk_alloc ?_ _)); exact BK124.out) hb); have n1_ := Aside0.mk (below_step (by repeat (first | (with_reducible first | exact HB.out | apply below_alloc | apply pw_below_drewN | apply below_drew1 | refine below_set ?_ GE124.out) | exact HB.out)) hb); clear BK124; clear HB; have BK124 := n0_; have HB := n1_; clear n0_ n1_; (try clear hb); (try clear hb2); (try clear hk); (try clear hi); have hcz48_0 : w47.cell? ⟨gb124, 0, none⟩ = some (.string a0_0) := (blk_cell BK124.out 0).trans rfl; have hcz48_1 : w47.cell? ⟨gb124, 1, none⟩ = some (.int .i64 a0_1) := (blk_cell BK124.out 1).trans rfl; have hfz48_0 := blk_frozen BK124.out 0; have hfz48_1 := blk_frozen BK124.out 1)); try go_wp2_with (first | (go_at_call 35; (with_reducible refine (money_digits.calls kj3 a0_0 t126 _ A10.out).mono ?_); rintro e w' ⟨rfl, ⟨nd, rfl⟩⟩; (try first | exact ⟨rfl, _, World.drewN_drewN _ _ _⟩ | exact ⟨rfl, _, Eq.trans (World.drewN_drewN _ _ _) (congrArg (World.drewN _) (Nat.add_assoc _ _ _))⟩)) | (go_at_call 36; (with_reducible refine (strconv_FormatInt.calls x4_3 10 t127 _ ?side1 A11.out).mono ?_); (case side1 => repeat (first | exact HT.out | exact Tabs_below HT.out (by repeat (first | (with_reducible first | exact HB.out | apply below_alloc | apply pw_below_drewN | apply below_drew1 | refine below_set ?_ GE124.out) | exact HB.out)) | (with_reducible refine Tabs_drewN ?_ _) | (with_reducible refine Tabs_drew ?_))); rintro e w47 ⟨rfl, hb⟩; have n0_ := Aside0.mk (blk_below (g := gb124) (o := .cells #[.string a0_0, .int .i64 a0_1] 23 (0, 0)) (by (with_reducible repeat (first | refine blk_drewN ?_ _ | refine blk_drew ?_ | refine blk_alloc ?_ _)); exact BK124.out) hb); have n1_ := Aside0.mk (below_step (by repeat (first | (with_reducible first | exact HB.out | apply below_alloc | apply pw_below_drewN | apply below_drew1 | refine below_set ?_ GE124.out) | exact HB.out)) hb); clear BK124; clear HB; have BK124 := n0_; have HB := n1_; clear n0_ n1_; (try clear hb); (try clear hb2); (try clear hk); (try clear hi); have hcz48_0 : w47.cell? ⟨gb124, 0, none⟩ = some (.string a0_0) := (blk_cell BK124.out 0).trans rfl; have hcz48_1 : w47.cell? ⟨gb124, 1, none⟩ = some (.int .i64 a0_1) := (blk_cell BK124.out 1).trans rfl; have hfz48_0 := blk_frozen BK124.out 0; have hfz48_1 := blk_frozen BK124.out 1)))
             go_ret
             exact ⟨by first | rfl | (simp [errW_none, errW_some] <;> rfl) | (simp only [← hji38]; first | rfl | (simp [errW_none, errW_some] <;> rfl)) | (simp [*, errW_none, errW_some] <;> rfl), by repeat (first | (with_reducible first | exact HB.out | apply below_alloc | apply pw_below_drewN | apply below_drew1 | refine below_set ?_ GE124.out) | exact HB.out)⟩
            ·rw [if_neg c45] at H
             exact absurd H (by simp)
           ·rw [if_neg c42] at H
            exact absurd H (by simp)
          ·rw [if_neg c41] at H
           exact absurd H (by simp)
         ·rw [if_neg c40] at H
          exact absurd H (by simp)
        ·rw [if_neg c39] at H
         exact absurd H (by simp)
       ·rw [if_neg c37] at H
        exact absurd H (by simp)
      ·rw [if_neg c36] at H
       exact absurd H (by simp)
 ·replace c3 := Bool.eq_false_iff.mpr c3
  subst c3
  have H1 : (some (⟨#[]⟩ : ByteArray)) = some r := by rw [if_neg (show ¬ (false = true) by decide)] at H; exact H
  clear H
  have H := H1
  clear H1
  obtain rfl := Option.some.inj H
  go_enter Tryd.func15, Tryd.ntmps15
  go_wp2_with (first | ((with_reducible refine gate_dst (N := 1) rfl ?_); refine box_event ?hg (N := 1) ?hd (cs := #[.string a0_0, .int .i64 a0_1]) (t := 23) ?hr ?_; (case hd => rfl); (case hg => rfl); (case hr => first | (go_simp; done) | (go_simp; rfl)); intro gb124 hg w49 hbox hb; have n0_ := Aside0.mk (below_step (by repeat (first | (with_reducible first | exact HB.out | apply below_alloc | apply pw_below_drewN | apply below_drew1) | exact HB.out)) hb); have n1_ := Aside0.mk (hbox); have n2_ := Aside0.mk ((by rw [hg]; exact (below_size (by repeat (first | (with_reducible first | exact HB.out | apply below_alloc | apply pw_below_drewN | apply below_drew1) | exact HB.out))) : w.heap.size ≤ gb124)); have n3_ := Aside0.mk ((by rw [hg]; exact (below_size (by repeat (first | (with_reducible first | exact HB.out | apply below_alloc | apply pw_below_drewN | apply below_drew1) | exact HB.out))) : w.heap.size ≤ gb124)); clear HB; have HB := n0_; have BK124 := n1_; have GW124 := n2_; have GE124 := n3_; clear n0_ n1_ n2_ n3_; clear hb hbox hg; have hcz50_0 : w49.cell? ⟨gb124, 0, none⟩ = some (.string a0_0) := (blk_cell BK124.out 0).trans rfl; have hcz50_1 : w49.cell? ⟨gb124, 1, none⟩ = some (.int .i64 a0_1) := (blk_cell BK124.out 1).trans rfl; have hfz50_0 := blk_frozen BK124.out 0; have hfz50_1 := blk_frozen BK124.out 1) | (go_at_call 22; (with_reducible refine (money_May.calls a0_0 a0_1 false _ A2.out).mono ?_); rintro e w51 ⟨rfl, hb⟩; have n0_ := Aside0.mk (blk_below (g := gb124) (o := .cells #[.string a0_0, .int .i64 a0_1] 23 (0, 0)) (by (with_reducible repeat (first | refine blk_drewN ?_ _ | refine blk_drew ?_ | refine blk_alloc ?_ _)); exact BK124.out) hb); have n1_ := Aside0.mk (below_step (by repeat (first | (with_reducible first | exact HB.out | apply below_alloc | apply pw_below_drewN | apply below_drew1 | refine below_set ?_ GE124.out) | exact HB.out)) hb); clear BK124; clear HB; have BK124 := n0_; have HB := n1_; clear n0_ n1_; (try clear hb); (try clear hb2); (try clear hk); (try clear hi)))
  repeat (go_quiet (first | ((with_reducible refine gate_dst (N := 1) rfl ?_); refine box_event ?hg (N := 1) ?hd (cs := #[.string a0_0, .int .i64 a0_1]) (t := 23) ?hr ?_; (case hd => rfl); (case hg => rfl); (case hr => first | (go_simp; done) | (go_simp; rfl)); intro gb124 hg w49 hbox hb; have n0_ := Aside0.mk (below_step (by repeat (first | (with_reducible first | exact HB.out | apply below_alloc | apply pw_below_drewN | apply below_drew1) | exact HB.out)) hb); have n1_ := Aside0.mk (hbox); have n2_ := Aside0.mk ((by rw [hg]; exact (below_size (by repeat (first | (with_reducible first | exact HB.out | apply below_alloc | apply pw_below_drewN | apply below_drew1) | exact HB.out))) : w.heap.size ≤ gb124)); have n3_ := Aside0.mk ((by rw [hg]; exact (below_size (by repeat (first | (with_reducible first | exact HB.out | apply below_alloc | apply pw_below_drewN | apply below_drew1) | exact HB.out))) : w.heap.size ≤ gb124)); clear HB; have HB := n0_; have BK124 := n1_; have GW124 := n2_; have GE124 := n3_; clear n0_ n1_ n2_ n3_; clear hb hbox hg; have hcz50_0 : w49.cell? ⟨gb124, 0, none⟩ = some (.string a0_0) := (blk_cell BK124.out 0).trans rfl; have hcz50_1 : w49.cell? ⟨gb124, 1, none⟩ = some (.int .i64 a0_1) := (blk_cell BK124.out 1).trans rfl; have hfz50_0 := blk_frozen BK124.out 0; have hfz50_1 := blk_frozen BK124.out 1) | (go_at_call 22; (with_reducible refine (money_May.calls a0_0 a0_1 false _ A2.out).mono ?_); rintro e w51 ⟨rfl, hb⟩; have n0_ := Aside0.mk (blk_below (g := gb124) (o := .cells #[.string a0_0, .int .i64 a0_1] 23 (0, 0)) (by (with_reducible repeat (first | refine blk_drewN ?_ _ | refine blk_drew ?_ | refine blk_alloc ?_ _)); exact BK124.out) hb); have n1_ := Aside0.mk (below_step (by repeat (first | (with_reducible first | exact HB.out | apply below_alloc | apply pw_below_drewN | apply below_drew1 | refine below_set ?_ GE124.out) | exact HB.out)) hb); clear BK124; clear HB; have BK124 := n0_; have HB := n1_; clear n0_ n1_; (try clear hb); (try clear hb2); (try clear hk); (try clear hi))); try go_wp2_with (first | ((with_reducible refine gate_dst (N := 1) rfl ?_); refine box_event ?hg (N := 1) ?hd (cs := #[.string a0_0, .int .i64 a0_1]) (t := 23) ?hr ?_; (case hd => rfl); (case hg => rfl); (case hr => first | (go_simp; done) | (go_simp; rfl)); intro gb124 hg w49 hbox hb; have n0_ := Aside0.mk (below_step (by repeat (first | (with_reducible first | exact HB.out | apply below_alloc | apply pw_below_drewN | apply below_drew1) | exact HB.out)) hb); have n1_ := Aside0.mk (hbox); have n2_ := Aside0.mk ((by rw [hg]; exact (below_size (by repeat (first | (with_reducible first | exact HB.out | apply below_alloc | apply pw_below_drewN | apply below_drew1) | exact HB.out))) : w.heap.size ≤ gb124)); have n3_ := Aside0.mk ((by rw [hg]; exact (below_size (by repeat (first | (with_reducible first | exact HB.out | apply below_alloc | apply pw_below_drewN | apply below_drew1) | exact HB.out))) : w.heap.size ≤ gb124)); clear HB; have HB := n0_; have BK124 := n1_; have GW124 := n2_; have GE124 := n3_; clear n0_ n1_ n2_ n3_; clear hb hbox hg; have hcz50_0 : w49.cell? ⟨gb124, 0, none⟩ = some (.string a0_0) := (blk_cell BK124.out 0).trans rfl; have hcz50_1 : w49.cell? ⟨gb124, 1, none⟩ = some (.int .i64 a0_1) := (blk_cell BK124.out 1).trans rfl; have hfz50_0 := blk_frozen BK124.out 0; have hfz50_1 := blk_frozen BK124.out 1) | (go_at_call 22; (with_reducible refine (money_May.calls a0_0 a0_1 false _ A2.out).mono ?_); rintro e w51 ⟨rfl, hb⟩; have n0_ := Aside0.mk (blk_below (g := gb124) (o := .cells #[.string a0_0, .int .i64 a0_1] 23 (0, 0)) (by (with_reducible repeat (first | refine blk_drewN ?_ _ | refine blk_drew ?_ | refine blk_alloc ?_ _)); exact BK124.out) hb); have n1_ := Aside0.mk (below_step (by repeat (first | (with_reducible first | exact HB.out | apply below_alloc | apply pw_below_drewN | apply below_drew1 | refine below_set ?_ GE124.out) | exact HB.out)) hb); clear BK124; clear HB; have BK124 := n0_; have HB := n1_; clear n0_ n1_; (try clear hb); (try clear hb2); (try clear hk); (try clear hi))))
  go_ret
  exact ⟨by first | rfl | (simp [errW_none, errW_some] <;> rfl) | (simp [*, errW_none, errW_some] <;> rfl), by repeat (first | (with_reducible first | exact HB.out | apply below_alloc | apply pw_below_drewN | apply below_drew1 | refine below_set ?_ GE124.out) | exact HB.out)⟩

end Go.Proofs.YtggjphcikcflkaaDoor.P
