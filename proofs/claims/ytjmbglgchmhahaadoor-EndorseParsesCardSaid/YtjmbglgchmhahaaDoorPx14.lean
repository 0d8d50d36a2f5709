-- Written by the session's own program xprint.py, which runs the kit's print over functions given by hand.
import Derived.Test.YtjmbglgchmhahaaDoorPx0
import Derived.Test.YtjmbglgchmhahaaDoorPx3
import Derived.Test.YtjmbglgchmhahaaDoorPx7
import Derived.Test.YtjmbglgchmhahaaDoorPx12
import Derived.Test.YtjmbglgchmhahaaDoorPx13
namespace Go.Proofs.YtjmbglgchmhahaaDoor.P
open Go.RowKit Go.Proofs.YtjmbglgchmhahaaDoorW.PrintWords Go.Proofs.YtjmbglgchmhahaaDoorW.PrintLast Go.Proofs.YtjmbglgchmhahaaDoorW.PrintMore
attribute [local go_sem] max2_int min2_int max_two min_two max_three min_three max_four min_four   -- for this text's walks alone
open List (setIfInBounds_toArray set_cons_zero set_cons_succ)
set_option linter.unusedVariables false
set_option linter.unusedSimpArgs false

/-! ### endorse_read: function 20 -/
mutual
def endorse_read.j2 : Nat → ByteArray → ByteArray → ByteArray → Int → Int → Option (ByteArray × ByteArray × Int × Int × Bool)
 | 0, _, _, _, _, _ => none
 | k + 1, x0, x169000, x169001, x169002, x169003 => (endorse_right.f k x169000 x169001 x169002 x169003).bind fun t177 => (if t177 = true then ((endorse_line.f x169000 x169001 x169002 x169003).bind fun t178 => (some (x169000, x169001, x169002, x169003, (t178.toList == x0.toList)))) else (some (x169000, x169001, x169002, x169003, false)))
def endorse_read.j0 : Nat → ByteArray → List ByteArray → Bool → ByteArray → ByteArray → Int → Int → Option (ByteArray × ByteArray × Int × Int × Bool)
 | 0, _, _, _, _, _, _, _ => none
 | k + 1, x0, x4, x22, x169000, x169001, x169002, x169003 => if x22 = true then (if 1 < (x4.length : Int) then (if 2 < (x4.length : Int) then (endorse_read.j2 k x0 (rdOf ByteArray.empty x4 1) (rdOf ByteArray.empty x4 2) 0 x169003) else (none)) else (none)) else (if (x4.length : Int) = 3 then (if 0 < (x4.length : Int) then (endorse_read.j1 k x0 x4 ((rdOf ByteArray.empty x4 0).toList == ([98, 108, 97, 110, 107] : List UInt8)) x169000 x169001 x169002 x169003) else (none)) else (endorse_read.j1 k x0 x4 false x169000 x169001 x169002 x169003))
def endorse_read.j1 : Nat → ByteArray → List ByteArray → Bool → ByteArray → ByteArray → Int → Int → Option (ByteArray × ByteArray × Int × Int × Bool)
 | 0, _, _, _, _, _, _, _ => none
 | k + 1, x0, x4, x41, x169000, x169001, x169002, x169003 => if x41 = true then (if 1 < (x4.length : Int) then (endorse_read.j2 k x0 (rdOf ByteArray.empty x4 1) x169001 1 x169003) else (none)) else (if (x4.length : Int) = 4 then (if 0 < (x4.length : Int) then (if (rdOf ByteArray.empty x4 0).toList = ([111, 110, 108, 121] : List UInt8) then (if 1 < (x4.length : Int) then (if 2 < (x4.length : Int) then (endorse_read.j2 k x0 (rdOf ByteArray.empty x4 1) (rdOf ByteArray.empty x4 2) 2 x169003) else (none)) else (none)) else (endorse_read.j2 k x0 x169000 x169001 x169002 x169003)) else (none)) else (endorse_read.j2 k x0 x169000 x169001 x169002 x169003))
end
def endorse_read.f (k : Nat) (a0 : ByteArray) : Option (ByteArray × ByteArray × Int × Int × Bool) := (strings_Split.f a0 (⟨#[32]⟩ : ByteArray)).bind fun t162 => (if 0 ≤ (wrap64 ((t162.length : Int) - 1)) then (if (wrap64 ((t162.length : Int) - 1)) < (t162.length : Int) then ((strconv_Atoi.f (rdOf ByteArray.empty t162 (wrap64 ((t162.length : Int) - 1)))).bind fun bt166 => (if (t162.length : Int) = 4 then (if 0 < (t162.length : Int) then (endorse_read.j0 k a0 t162 ((rdOf ByteArray.empty t162 0).toList == ([111, 114, 100, 101, 114] : List UInt8)) (⟨#[]⟩ : ByteArray) (⟨#[]⟩ : ByteArray) (-1) bt166.1) else (none)) else (endorse_read.j0 k a0 t162 false (⟨#[]⟩ : ByteArray) (⟨#[]⟩ : ByteArray) (-1) bt166.1))) else (none)) else (none))
theorem endorse_read.mono_l : ∀ k, (∀ y0 y1 y2 y3 y4, LeO (endorse_read.j2 k y0 y1 y2 y3 y4) (endorse_read.j2 (k + 1) y0 y1 y2 y3 y4)) ∧ (∀ y0 y1 y2 y3 y4 y5 y6, LeO (endorse_read.j0 k y0 y1 y2 y3 y4 y5 y6) (endorse_read.j0 (k + 1) y0 y1 y2 y3 y4 y5 y6)) ∧ (∀ y0 y1 y2 y3 y4 y5 y6, LeO (endorse_read.j1 k y0 y1 y2 y3 y4 y5 y6) (endorse_read.j1 (k + 1) y0 y1 y2 y3 y4 y5 y6))
 | 0 => ⟨fun _ _ _ _ _ r h => by simp [endorse_read.j2] at h, fun _ _ _ _ _ _ _ r h => by simp [endorse_read.j0] at h, fun _ _ _ _ _ _ _ r h => by simp [endorse_read.j1] at h⟩
 | k + 1 => by
  obtain ⟨ih0, ih1, ih2⟩ := endorse_read.mono_l k
  refine ⟨?_, ?_, ?_⟩
  ·intro y0 y1 y2 y3 y4
   unfold endorse_read.j2
   repeat' first
   | (with_reducible exact ih0 _ _ _ _ _)
   | (with_reducible exact ih1 _ _ _ _ _ _ _)
   | (with_reducible exact ih2 _ _ _ _ _ _ _)
   | (with_reducible exact endorse_right.mono _ _ _ _ _)
   | (with_reducible exact LeO.refl _)
   | (with_reducible exact LeO.none _)
   | (with_reducible refine LeO.ite ?_ ?_)
   | (with_reducible refine LeO.bind ?_ (fun _ => ?_))
   | exact ih0 _ _ _ _ _
   | exact ih1 _ _ _ _ _ _ _
   | exact ih2 _ _ _ _ _ _ _
   | exact endorse_right.mono _ _ _ _ _
   | exact LeO.none _
   | refine LeO.ite ?_ ?_
   | refine LeO.bind ?_ (fun _ => ?_)
  ·intro y0 y1 y2 y3 y4 y5 y6
   unfold endorse_read.j0
   repeat' first
   | (with_reducible exact ih0 _ _ _ _ _)
   | (with_reducible exact ih1 _ _ _ _ _ _ _)
   | (with_reducible exact ih2 _ _ _ _ _ _ _)
   | (with_reducible exact endorse_right.mono _ _ _ _ _)
   | (with_reducible exact LeO.refl _)
   | (with_reducible exact LeO.none _)
   | (with_reducible refine LeO.ite ?_ ?_)
   | (with_reducible refine LeO.bind ?_ (fun _ => ?_))
   | exact ih0 _ _ _ _ _
   | exact ih1 _ _ _ _ _ _ _
   | exact ih2 _ _ _ _ _ _ _
   | exact endorse_right.mono _ _ _ _ _
   | exact LeO.none _
   | refine LeO.ite ?_ ?_
   | refine LeO.bind ?_ (fun _ => ?_)
  ·intro y0 y1 y2 y3 y4 y5 y6
   unfold endorse_read.j1
   repeat' first
   | (with_reducible exact ih0 _ _ _ _ _)
   | (with_reducible exact ih1 _ _ _ _ _ _ _)
   | (with_reducible exact ih2 _ _ _ _ _ _ _)
   | (with_reducible exact endorse_right.mono _ _ _ _ _)
   | (with_reducible exact LeO.refl _)
   | (with_reducible exact LeO.none _)
   | (with_reducible refine LeO.ite ?_ ?_)
   | (with_reducible refine LeO.bind ?_ (fun _ => ?_))
   | exact ih0 _ _ _ _ _
   | exact ih1 _ _ _ _ _ _ _
   | exact ih2 _ _ _ _ _ _ _
   | exact endorse_right.mono _ _ _ _ _
   | exact LeO.none _
   | refine LeO.ite ?_ ?_
   | refine LeO.bind ?_ (fun _ => ?_)
theorem endorse_read.mono : ∀ a0 k, LeO (endorse_read.f k a0) (endorse_read.f (k + 1) a0) := by
 intro a0 k
 obtain ⟨ih0, ih1, ih2⟩ := endorse_read.mono_l k
 unfold endorse_read.f
 repeat' first
   | (with_reducible exact ih0 _ _ _ _ _)
   | (with_reducible exact ih1 _ _ _ _ _ _ _)
   | (with_reducible exact ih2 _ _ _ _ _ _ _)
   | (with_reducible exact endorse_right.mono _ _ _ _ _)
   | (with_reducible exact LeO.refl _)
   | (with_reducible exact LeO.none _)
   | (with_reducible refine LeO.ite ?_ ?_)
   | (with_reducible refine LeO.bind ?_ (fun _ => ?_))
   | exact ih0 _ _ _ _ _
   | exact ih1 _ _ _ _ _ _ _
   | exact ih2 _ _ _ _ _ _ _
   | exact endorse_right.mono _ _ _ _ _
   | exact LeO.none _
   | refine LeO.ite ?_ ?_
   | refine LeO.bind ?_ (fun _ => ?_)
def endorse_read.T5 : Bool × List (List Nat × List Nat) := (true, [([], []), ([0], [0]), ([1], [1]), ([], []), ([3], [3]), ([4], [4]), ([], []), ([6], [6]), ([0, 1, 2, 6, 7], []), ([8, 2, 7, 0, 1, 2, 6, 7], [2, 8]), ([0, 1, 2, 3, 4, 5, 6, 7, 8, 9], []), ([10, 5, 9, 0, 1, 2, 3, 4, 5, 6, 7, 8, 9], [5, 10])])
def endorse_read.B5 : List Nat := [0, 1, 3, 0, 8, 24, 0, 64, 199, 455, 1023, 2047]
theorem endorse_read.tab5 : rtab .any (opsOf Tryd.f20 5) = endorse_read.T5 := by kernel_rfl
theorem endorse_read.bits5 : waitsOk endorse_read.T5.2 endorse_read.B5 = true := by kernel_rfl
def endorse_read.T9 : Bool × List (List Nat × List Nat) := (true, [([], []), ([0], [0]), ([1], [1]), ([], []), ([3], [3]), ([4], [4]), ([], []), ([6], [6]), ([0, 1, 2, 6, 7], []), ([8, 2, 7, 0, 1, 2, 6, 7], [2, 8]), ([0, 1, 2, 3, 4, 5, 6, 7, 8, 9], []), ([10, 5, 9, 0, 1, 2, 3, 4, 5, 6, 7, 8, 9], [5, 10])])
def endorse_read.B9 : List Nat := [0, 1, 3, 0, 8, 24, 0, 64, 199, 455, 1023, 2047]
theorem endorse_read.tab9 : rtab .any (opsOf Tryd.f20 9) = endorse_read.T9 := by kernel_rfl
theorem endorse_read.bits9 : waitsOk endorse_read.T9.2 endorse_read.B9 = true := by kernel_rfl
def endorse_read.T10 : Bool × List (List Nat × List Nat) := (true, [([], []), ([], []), ([1], [1]), ([2, 2], [2]), ([3], [3]), ([4, 3, 3], [3, 4]), ([3], [3]), ([5, 6, 3], [3, 5, 6]), ([3, 7], [3, 7]), ([0, 5, 0], [0]), ([8, 9, 0, 1, 2, 3, 4, 5, 6, 7, 8, 9], [8])])
def endorse_read.B10 : List Nat := [0, 0, 2, 6, 14, 30, 14, 126, 254, 63, 1023]
theorem endorse_read.tab10 : rtab .any (opsOf Tryd.f20 10) = endorse_read.T10 := by kernel_rfl
theorem endorse_read.bits10 : waitsOk endorse_read.T10.2 endorse_read.B10 = true := by kernel_rfl
set_option maxHeartbeats 8000000 in
set_option maxRecDepth 100000 in
theorem endorse_read.calls (k : Nat) (a0 : ByteArray) (r1 : ByteArray) (r2 : ByteArray) (r3 : Int) (r4 : Int) (r5 : Bool) (w : World) (hT : Tabs w) (h : endorse_read.f k a0 = some (r1, r2, r3, r4, r5)) :
  Calls Tryd.prog 20 #[.string a0] w fun e w' => e = .returned (.tuple #[.agg #[.string r1, .string r2, .int .i64 r3, .int .i64 r4], .bool r5]) ∧ Below w.heap.size w w' := by
 have hu34 := Tryd.underlying34
 have HT := Aside0.mk hT
 clear hT
 have HB := Aside0.mk (Below.refl w.heap.size w)
 have H : ((strings_Split.f a0 (⟨#[32]⟩ : ByteArray)).bind fun t162 => (if 0 ≤ (wrap64 ((t162.length : Int) - 1)) then (if (wrap64 ((t162.length : Int) - 1)) < (t162.length : Int) then ((strconv_Atoi.f (rdOf ByteArray.empty t162 (wrap64 ((t162.length : Int) - 1)))).bind fun bt166 => (if (t162.length : Int) = 4 then (if 0 < (t162.length : Int) then (endorse_read.j0 k a0 t162 ((rdOf ByteArray.empty t162 0).toList == ([111, 114, 100, 101, 114] : List UInt8)) (⟨#[]⟩ : ByteArray) (⟨#[]⟩ : ByteArray) (-1) bt166.1) else (none)) else (endorse_read.j0 k a0 t162 false (⟨#[]⟩ : ByteArray) (⟨#[]⟩ : ByteArray) (-1) bt166.1))) else (none)) else (none))) = some (r1, r2, r3, r4, r5) := h
 clear h
 replace H := Option.bind_eq_some_iff.mp H
 obtain ⟨t162, A20, H⟩ := H
 replace H : (if 0 ≤ (wrap64 ((t162.length : Int) - 1)) then (if (wrap64 ((t162.length : Int) - 1)) < (t162.length : Int) then ((strconv_Atoi.f (rdOf ByteArray.empty t162 (wrap64 ((t162.length : Int) - 1)))).bind fun bt166 => (if (t162.length : Int) = 4 then (if 0 < (t162.length : Int) then (endorse_read.j0 k a0 t162 ((rdOf ByteArray.empty t162 0).toList == ([111, 114, 100, 101, 114] : List UInt8)) (⟨#[]⟩ : ByteArray) (⟨#[]⟩ : ByteArray) (-1) bt166.1) else (none)) else (endorse_read.j0 k a0 t162 false (⟨#[]⟩ : ByteArray) (⟨#[]⟩ : ByteArray) (-1) bt166.1))) else (none)) else (none)) = some (r1, r2, r3, r4, r5) := H
 have A2 := Aside0.mk A20
 clear A20
 obtain ⟨ji3, hji3⟩ : ∃ j_ : Int, (wrap64 ((t162.length : Int) - 1)) = j_ := ⟨_, rfl⟩
 replace H : (if 0 ≤ (ji3) then (if (ji3) < (t162.length : Int) then ((strconv_Atoi.f (rdOf ByteArray.empty t162 (ji3))).bind fun bt166 => (if (t162.length : Int) = 4 then (if 0 < (t162.length : Int) then (endorse_read.j0 k a0 t162 ((rdOf ByteArray.empty t162 0).toList == ([111, 114, 100, 101, 114] : List UInt8)) (⟨#[]⟩ : ByteArray) (⟨#[]⟩ : ByteArray) (-1) bt166.1) else (none)) else (endorse_read.j0 k a0 t162 false (⟨#[]⟩ : ByteArray) (⟨#[]⟩ : ByteArray) (-1) bt166.1))) else (none)) else (none)) = some (r1, r2, r3, r4, r5) := by first | (rw [hji3] at H; exact H) | (simp only [hji3] at H ⊢; exact H)
 (try rw [hji3] at A2)
 have hji3w : (IntKind.i64.wrap ((t162.length : Int) - 1)) = ji3 := (i64_w _).trans hji3
 by_cases c4 : 0 ≤ (ji3)
 ·rw [if_pos c4] at H
  have c4b0 : decide (0 ≤ (ji3)) = true := decide_eq_true c4
  clear c4
  by_cases c5 : (ji3) < (t162.length : Int)
  ·rw [if_pos c5] at H
   have c5b0 : decide ((ji3) < (t162.length : Int)) = true := decide_eq_true c5
   clear c5
   replace H := Option.bind_eq_some_iff.mp H
   obtain ⟨⟨t166, t167⟩, A60, H⟩ := H
   replace H : (if (t162.length : Int) = 4 then (if 0 < (t162.length : Int) then (endorse_read.j0 k a0 t162 ((rdOf ByteArray.empty t162 0).toList == ([111, 114, 100, 101, 114] : List UInt8)) (⟨#[]⟩ : ByteArray) (⟨#[]⟩ : ByteArray) (-1) t166) else (none)) else (endorse_read.j0 k a0 t162 false (⟨#[]⟩ : ByteArray) (⟨#[]⟩ : ByteArray) (-1) t166)) = some (r1, r2, r3, r4, r5) := H
   have A6 := Aside0.mk A60
   clear A60
   have HC7 := Aside0.mk H
   clear H
   go_enter Tryd.func20, Tryd.ntmps20
   go_upto_block 0 with (first | ((with_reducible refine gate_dst (N := 2) rfl ?_); refine box_event ?hg (N := 2) ?hd (cs := #[.string (⟨#[]⟩ : ByteArray), .string (⟨#[]⟩ : ByteArray), .int .i64 0, .int .i64 0]) (t := 34) ?hr ?_; (case hd => rfl); (case hg => rfl); (case hr => first | (go_simp; done) | (go_simp; rfl)); intro gb161 hg w8 hbox hb; have n0_ := Aside0.mk (below_step (by repeat (first | (with_reducible first | exact HB.out | apply below_alloc | apply pw_below_drewN | apply below_drew1) | exact HB.out)) hb); have n1_ := Aside0.mk (hbox); have n2_ := Aside0.mk ((by rw [hg]; exact (below_size (by repeat (first | (with_reducible first | exact HB.out | apply below_alloc | apply pw_below_drewN | apply below_drew1) | exact HB.out))) : w.heap.size ≤ gb161)); have n3_ := Aside0.mk ((by rw [hg]; exact (below_size (by repeat (first | (with_reducible first | exact HB.out | apply below_alloc | apply pw_below_drewN | apply below_drew1) | exact HB.out))) : w.heap.size ≤ gb161)); clear HB; have HB := n0_; have BK161 := n1_; have GW161 := n2_; have GE161 := n3_; clear n0_ n1_ n2_ n3_; clear hb hbox hg) | ((with_reducible refine gate_callee (f := 31) rfl ?_); refine goesL_ (some 9) rfl rfl Tryd.func31 (by kernel_rfl) rfl #[.string a0, .string (⟨#[32]⟩ : ByteArray)] rfl (by (try simp only [List.map_toArray, List.map_cons, List.map_nil]); first | done | rfl | (simp only [List.length_drop, List.length_take]; rfl)) ?_; (with_reducible refine (strings_Split.calls a0 (⟨#[32]⟩ : ByteArray) t162 _ ?side1 A2.out).mono ?_); (case side1 => repeat (first | exact HT.out | exact Tabs_below HT.out (by repeat (first | (with_reducible first | exact HB.out | apply below_alloc | apply pw_below_drewN | apply below_drew1 | refine below_set ?_ GE161.out) | exact HB.out)) | (with_reducible refine Tabs_drewN ?_ _) | (with_reducible refine Tabs_drew ?_))); rintro e w9 ⟨v163, rfl, ho0, hb⟩; refine ⟨_, rfl, ?_⟩; have n0_ := Aside0.mk (Kd.R_lower ho0 (below_size (by repeat (first | (with_reducible first | exact HB.out | apply below_alloc | apply pw_below_drewN | apply below_drew1 | refine below_set ?_ GE161.out) | exact HB.out)))); have n1_ := Aside0.mk (blk_below (g := gb161) (o := .cells #[.string (⟨#[]⟩ : ByteArray), .string (⟨#[]⟩ : ByteArray), .int .i64 0, .int .i64 0] 34 (0, 0)) (by (with_reducible repeat (first | refine blk_drewN ?_ _ | refine blk_drew ?_ | refine blk_alloc ?_ _)); exact BK161.out) hb); have n2_ := Aside0.mk (below_step (by repeat (first | (with_reducible first | exact HB.out | apply below_alloc | apply pw_below_drewN | apply below_drew1 | refine below_set ?_ GE161.out) | exact HB.out)) hb); clear BK161; clear HB; have HO164 := n0_; have BK161 := n1_; have HB := n2_; clear n0_ n1_ n2_; (try clear hb); (try clear hb2); (try clear hk); (try clear hi); (try clear ho0); obtain ⟨Ao10, co10, eo10⟩ := Kd.R_slice HO164.out; subst eo10; have p165 : 0 ≤ ((ji3) : Int) := of_decide_eq_true (by first | (with_reducible assumption) | assumption); have q165 : (ji3) < (t162.length : Int) := of_decide_eq_true (by first | (with_reducible assumption) | assumption); obtain ⟨ad165, e165, hx165_0⟩ := Kd.at_string (Kd.R_reads' HO164.out).2.2 (ji3) p165 q165; cases e165; replace p165 := eq_true p165; replace q165 := eq_true q165) | ((with_reducible refine gate_callee (f := 32) rfl ?_); refine goesL_ (some 17) rfl rfl Tryd.func32 (by kernel_rfl) rfl #[.string (rdOf ByteArray.empty t162 (ji3))] rfl (by (try simp only [List.map_toArray, List.map_cons, List.map_nil]); first | done | (simp only [hji3]; rfl) | rfl | (simp only [List.length_drop, List.length_take]; rfl)) ?_; (with_reducible refine (strconv_Atoi.calls (rdOf ByteArray.empty t162 (ji3)) t166 t167 _ ?side1 A6.out).mono ?_); (case side1 => repeat (first | exact HT.out | exact Tabs_below HT.out (by repeat (first | (with_reducible first | exact HB.out | apply below_alloc | apply pw_below_drewN | apply below_drew1 | refine below_set ?_ GE161.out) | exact HB.out)) | (with_reducible refine Tabs_drewN ?_ _) | (with_reducible refine Tabs_drew ?_))); rintro e w11 ⟨ev_, rfl, hb⟩; refine ⟨_, rfl, ?_⟩; have n0_ := Aside0.mk (Kd.R_below (by (with_reducible repeat (first | apply Kd.R_alloc | apply Kd.R_drewN | apply Kd.R_drew)); exact HO164.out) hb); have n1_ := Aside0.mk (blk_below (g := gb161) (o := .cells #[.string (⟨#[]⟩ : ByteArray), .string (⟨#[]⟩ : ByteArray), .int .i64 0, .int .i64 0] 34 (0, 0)) (by (with_reducible repeat (first | refine blk_drewN ?_ _ | refine blk_drew ?_ | refine blk_alloc ?_ _)); exact BK161.out) hb); have n2_ := Aside0.mk (below_step (by repeat (first | (with_reducible first | exact HB.out | apply below_alloc | apply pw_below_drewN | apply below_drew1 | refine below_set ?_ GE161.out) | exact HB.out)) hb); clear HO164; clear BK161; clear HB; have HO164 := n0_; have BK161 := n1_; have HB := n2_; clear n0_ n1_ n2_; (try clear hb); (try clear hb2); (try clear hk); (try clear hi)) | ((with_reducible refine gate_dst (N := 7) rfl ?_); refine box_event ?hg (N := 7) ?hd (cs := #[.string (⟨#[]⟩ : ByteArray), .string (⟨#[]⟩ : ByteArray), .int .i64 0, .int .i64 0]) (t := 34) ?hr ?_; (case hd => rfl); (case hg => rfl); (case hr => first | (go_simp; done) | (go_simp; rfl)); intro gb168 hg w12 hbox hb; have n0_ := Aside0.mk (Kd.R_below (by (with_reducible repeat (first | apply Kd.R_alloc | apply Kd.R_drewN | apply Kd.R_drew)); exact HO164.out) hb); have n1_ := Aside0.mk (blk_below (g := gb161) (o := .cells #[.string (⟨#[]⟩ : ByteArray), .string (⟨#[]⟩ : ByteArray), .int .i64 0, .int .i64 0] 34 (0, 0)) (by (with_reducible repeat (first | refine blk_drewN ?_ _ | refine blk_drew ?_ | refine blk_alloc ?_ _)); exact BK161.out) hb); have n2_ := Aside0.mk (below_step (by repeat (first | (with_reducible first | exact HB.out | apply below_alloc | apply pw_below_drewN | apply below_drew1 | refine below_set ?_ GE161.out) | exact HB.out)) hb); have n3_ := Aside0.mk (hbox); have n4_ := Aside0.mk ((by rw [hg]; exact (below_size (by repeat (first | (with_reducible first | exact HB.out | apply below_alloc | apply pw_below_drewN | apply below_drew1 | refine below_set ?_ GE161.out) | exact HB.out))) : w.heap.size ≤ gb168)); have n5_ := Aside0.mk ((by rw [hg]; exact (below_size (by repeat (first | (with_reducible first | exact HB.out | apply below_alloc | apply pw_below_drewN | apply below_drew1 | refine below_set ?_ GE161.out) | exact HB.out))) : w.heap.size ≤ gb168)); have n6_ := Aside0.mk ((by rw [hg]; exact Nat.ne_of_lt (blk_lt (g := gb161) (o := .cells #[.string (⟨#[]⟩ : ByteArray), .string (⟨#[]⟩ : ByteArray), .int .i64 0, .int .i64 0] 34 (0, 0)) (by (with_reducible repeat (first | refine blk_drewN ?_ _ | refine blk_drew ?_ | refine blk_alloc ?_ _)); exact BK161.out)) : gb161 ≠ gb168)); have n7_ := Aside0.mk ((by rw [hg]; exact Nat.ne_of_gt (blk_lt (g := gb161) (o := .cells #[.string (⟨#[]⟩ : ByteArray), .string (⟨#[]⟩ : ByteArray), .int .i64 0, .int .i64 0] 34 (0, 0)) (by (with_reducible repeat (first | refine blk_drewN ?_ _ | refine blk_drew ?_ | refine blk_alloc ?_ _)); exact BK161.out)) : gb168 ≠ gb161)); clear HO164; clear BK161; clear HB; have HO164 := n0_; have BK161 := n1_; have HB := n2_; have BK168 := n3_; have GW168 := n4_; have GE168 := n5_; have NB161_168 := n6_; have NB168_161 := n7_; clear n0_ n1_ n2_ n3_ n4_ n5_ n6_ n7_; clear hb hbox hg; have hnb13 := NB168_161.out; have hnc13 := NB161_168.out; have hcz14_0 : w12.cell? ⟨gb168, 0, none⟩ = some (.string (⟨#[]⟩ : ByteArray)) := (blk_cell BK168.out 0).trans rfl; have hcz14_1 : w12.cell? ⟨gb168, 1, none⟩ = some (.string (⟨#[]⟩ : ByteArray)) := (blk_cell BK168.out 1).trans rfl; have hcz14_2 : w12.cell? ⟨gb168, 2, none⟩ = some (.int .i64 0) := (blk_cell BK168.out 2).trans rfl; have hcz14_3 : w12.cell? ⟨gb168, 3, none⟩ = some (.int .i64 0) := (blk_cell BK168.out 3).trans rfl; have hfz14_0 := blk_frozen BK168.out 0; have hfz14_1 := blk_frozen BK168.out 1; have hfz14_2 := blk_frozen BK168.out 2; have hfz14_3 := blk_frozen BK168.out 3))
   (try simp only [Act.put, setIfInBounds_toArray, set_cons_zero, set_cons_succ])
   go_cut [] (fun wc => ∃ (kq : Nat) (x169000_6 : ByteArray) (x169001_6 : ByteArray) (x169002_6 : Int), Aside0 (endorse_read.j2 kq a0 x169000_6 x169001_6 x169002_6 t166 = some (r1, r2, r3, r4, r5)) ∧ Aside0 (kq ≤ k) ∧ Aside0 (wc.heap[gb161]? = some (.cells #[.string (⟨#[]⟩ : ByteArray), .string (⟨#[]⟩ : ByteArray), .int .i64 0, .int .i64 0] 34 (0, 0))) ∧ Aside0 (wc.heap[gb168]? = some (.cells #[.string x169000_6, .string x169001_6, .int .i64 x169002_6, .int .i64 t166] 34 (0, 0))) ∧ Aside0 (Below w.heap.size w wc))
   case first =>
    have H := HC7.out
    clear HC7
    have HC15 := Aside0.mk H
    clear H
    go_upto_region 4 with (fail)
    go_cut [22] (fun v22 wc => ∃ (kq : Nat) (x22_14 : Bool), v22 = .bool x22_14 ∧ Aside0 (endorse_read.j0 kq a0 t162 x22_14 (⟨#[]⟩ : ByteArray) (⟨#[]⟩ : ByteArray) (-1) t166 = some (r1, r2, r3, r4, r5)) ∧ Aside0 (kq ≤ k) ∧ Aside0 (Kd.R Kd.string 9 wc w.heap.size (fun _ => True) (.slice (some ad165) t162.length co10) t162) ∧ Aside0 (wc.heap[gb161]? = some (.cells #[.string (⟨#[]⟩ : ByteArray), .string (⟨#[]⟩ : ByteArray), .int .i64 0, .int .i64 0] 34 (0, 0))) ∧ Aside0 (wc.heap[gb168]? = some (.cells #[.string (⟨#[]⟩ : ByteArray), .string (⟨#[]⟩ : ByteArray), .int .i64 (-1), .int .i64 t166] 34 (0, 0))) ∧ Aside0 (Below w.heap.size w wc))
    case first =>
     have H := HC15.out
     clear HC15
     by_cases c16 : (t162.length : Int) = 4
     ·rw [if_pos c16] at H
      have c16b0 : ((t162.length : Int) == 4) = true := beq_iff_eq.mpr c16
      have c16b1 : ((t162.length : Int) != 4) = false := bne_eq_false_iff_eq.mpr c16
      clear c16
      (first | rw [c16b0] | (simp only [i64_w, i32_w]; rw [c16b0]) | skip)
      by_cases c17 : 0 < (t162.length : Int)
      ·rw [if_pos c17] at H
       have c17b0 : decide (0 < (t162.length : Int)) = true := decide_eq_true c17
       have c17b1 : decide (0 < t162.length) = true := decide_eq_true (by omega)
       clear c17
       have H' := Aside0.mk H
       clear H
       have p169 : 0 ≤ (0 : Int) := (by omega)
       have q169 : 0 < (t162.length : Int) := of_decide_eq_true (by first | (with_reducible assumption) | assumption)
       obtain ⟨ad169, e169, hx169_0⟩ := Kd.at_string (Kd.R_reads' HO164.out).2.2 0 p169 q169
       obtain rfl : ad165 = ad169 := (by injection e169)
       have qi169 : (0 < t162.length) = True := eq_true (by omega)
       (try rw [show ((0 : Int)).toNat = 0 from rfl] at hx169_0)
       (try rw [Addr.add_zero'] at hx169_0)
       have hn169_0 : ad165.block ≠ gb168 := Kd.own_blk (Kd.R_ne HO164.out BK168.out (by decide))
       have hn169_1 : ad165.block ≠ gb168 := Kd.own_blk (Kd.R_ne HO164.out BK168.out (by decide))
       have hn169_2 : ad165.block ≠ gb168 := Kd.own_blk (Kd.R_ne HO164.out BK168.out (by decide))
       have hn169_3 : ad165.block ≠ gb168 := Kd.own_blk (Kd.R_ne HO164.out BK168.out (by decide))
       replace hx169_0 := (cell_far (p := ⟨gb168, 0, none⟩) (by first | (rw [add_block]; exact hn169_0) | (show (Addr.add _ _).block ≠ _; rw [add_block]; exact hn169_0) | exact hn169_0) (.string (⟨#[]⟩ : ByteArray))).trans hx169_0
       replace hx169_0 := (cell_far (p := ⟨gb168, 1, none⟩) (by first | (rw [add_block]; exact hn169_1) | (show (Addr.add _ _).block ≠ _; rw [add_block]; exact hn169_1) | exact hn169_1) (.string (⟨#[]⟩ : ByteArray))).trans hx169_0
       replace hx169_0 := (cell_far (p := ⟨gb168, 2, none⟩) (by first | (rw [add_block]; exact hn169_2) | (show (Addr.add _ _).block ≠ _; rw [add_block]; exact hn169_2) | exact hn169_2) (.int .i64 (-1))).trans hx169_0
       replace hx169_0 := (cell_far (p := ⟨gb168, 3, none⟩) (by first | (rw [add_block]; exact hn169_3) | (show (Addr.add _ _).block ≠ _; rw [add_block]; exact hn169_3) | exact hn169_3) (.int .i64 t166)).trans hx169_0
       clear hn169_0
       clear hn169_1
       clear hn169_2
       clear hn169_3
       replace p169 := eq_true p169
       replace q169 := eq_true q169
       go_wp2
       go_meet
       case rel => exact ⟨_, (((rdOf ByteArray.empty t162 0).toList == ([111, 114, 100, 101, 114] : List UInt8))), (by first | rfl | (simp; done) | (simp [*]; done)), H', ⟨by first | omega | exact Nat.le_refl _⟩, ⟨by (with_reducible repeat (first | apply Kd.R_alloc | apply Kd.R_drewN | apply Kd.R_drew)); exact Kd.R_mono (Kd.R_far (p := ⟨gb168, 3, none⟩) (Kd.R_far (p := ⟨gb168, 2, none⟩) (Kd.R_far (p := ⟨gb168, 1, none⟩) (Kd.R_far (p := ⟨gb168, 0, none⟩) (Kd.R_types HO164.out BK168.out (by decide)) (fun _ hk => hk.2) (.string (⟨#[]⟩ : ByteArray))) (fun _ hk => hk.2) (.string (⟨#[]⟩ : ByteArray))) (fun _ hk => hk.2) (.int .i64 (-1))) (fun _ hk => hk.2) (.int .i64 t166)) (fun _ hk => trivial)⟩, ⟨by (with_reducible repeat (first | refine blk_drewN ?_ _ | refine blk_drew ?_ | refine blk_alloc ?_ _)); refine blk_far ?_ NB161_168.out _; (with_reducible repeat (first | refine blk_drewN ?_ _ | refine blk_drew ?_ | refine blk_alloc ?_ _)); refine blk_far ?_ NB161_168.out _; (with_reducible repeat (first | refine blk_drewN ?_ _ | refine blk_drew ?_ | refine blk_alloc ?_ _)); refine blk_far ?_ NB161_168.out _; (with_reducible repeat (first | refine blk_drewN ?_ _ | refine blk_drew ?_ | refine blk_alloc ?_ _)); refine blk_far ?_ NB161_168.out _; (with_reducible repeat (first | refine blk_drewN ?_ _ | refine blk_drew ?_ | refine blk_alloc ?_ _)); exact BK161.out⟩, ⟨by (with_reducible repeat (first | refine blk_drewN ?_ _ | refine blk_drew ?_ | refine blk_alloc ?_ _)); refine blk_put (cs := #[.string (⟨#[]⟩ : ByteArray), .string (⟨#[]⟩ : ByteArray), .int .i64 (-1), .int .i64 0]) ?_ 3 _ rfl; (with_reducible repeat (first | refine blk_drewN ?_ _ | refine blk_drew ?_ | refine blk_alloc ?_ _)); refine blk_put (cs := #[.string (⟨#[]⟩ : ByteArray), .string (⟨#[]⟩ : ByteArray), .int .i64 0, .int .i64 0]) ?_ 2 _ rfl; (with_reducible repeat (first | refine blk_drewN ?_ _ | refine blk_drew ?_ | refine blk_alloc ?_ _)); refine blk_put (cs := #[.string (⟨#[]⟩ : ByteArray), .string (⟨#[]⟩ : ByteArray), .int .i64 0, .int .i64 0]) ?_ 1 _ rfl; (with_reducible repeat (first | refine blk_drewN ?_ _ | refine blk_drew ?_ | refine blk_alloc ?_ _)); refine blk_put (cs := #[.string (⟨#[]⟩ : ByteArray), .string (⟨#[]⟩ : ByteArray), .int .i64 0, .int .i64 0]) ?_ 0 _ rfl; (with_reducible repeat (first | refine blk_drewN ?_ _ | refine blk_drew ?_ | refine blk_alloc ?_ _)); exact BK168.out⟩, ⟨by repeat (first | (with_reducible first | exact HB.out | apply below_alloc | apply pw_below_drewN | apply below_drew1 | refine below_set ?_ GE161.out | refine below_set ?_ GE168.out) | exact HB.out)⟩⟩
      ·rw [if_neg c17] at H
       exact absurd H (by simp)
     ·rw [if_neg c16] at H
      have c16b0 : ((t162.length : Int) == 4) = false := beq_eq_false_iff_ne.mpr c16
      have c16b1 : ((t162.length : Int) != 4) = true := bne_iff_ne.mpr c16
      (first | rw [c16b0] | (simp only [i64_w, i32_w]; rw [c16b0]) | skip)
      have H' := Aside0.mk H
      clear H
      go_wp2
      go_meet
      case rel => exact ⟨_, (false), (by first | rfl | (simp; done) | (simp [*]; done)), H', ⟨by first | omega | exact Nat.le_refl _⟩, ⟨by (with_reducible repeat (first | apply Kd.R_alloc | apply Kd.R_drewN | apply Kd.R_drew)); exact Kd.R_mono (Kd.R_far (p := ⟨gb168, 3, none⟩) (Kd.R_far (p := ⟨gb168, 2, none⟩) (Kd.R_far (p := ⟨gb168, 1, none⟩) (Kd.R_far (p := ⟨gb168, 0, none⟩) (Kd.R_types HO164.out BK168.out (by decide)) (fun _ hk => hk.2) (.string (⟨#[]⟩ : ByteArray))) (fun _ hk => hk.2) (.string (⟨#[]⟩ : ByteArray))) (fun _ hk => hk.2) (.int .i64 (-1))) (fun _ hk => hk.2) (.int .i64 t166)) (fun _ hk => trivial)⟩, ⟨by (with_reducible repeat (first | refine blk_drewN ?_ _ | refine blk_drew ?_ | refine blk_alloc ?_ _)); refine blk_far ?_ NB161_168.out _; (with_reducible repeat (first | refine blk_drewN ?_ _ | refine blk_drew ?_ | refine blk_alloc ?_ _)); refine blk_far ?_ NB161_168.out _; (with_reducible repeat (first | refine blk_drewN ?_ _ | refine blk_drew ?_ | refine blk_alloc ?_ _)); refine blk_far ?_ NB161_168.out _; (with_reducible repeat (first | refine blk_drewN ?_ _ | refine blk_drew ?_ | refine blk_alloc ?_ _)); refine blk_far ?_ NB161_168.out _; (with_reducible repeat (first | refine blk_drewN ?_ _ | refine blk_drew ?_ | refine blk_alloc ?_ _)); exact BK161.out⟩, ⟨by (with_reducible repeat (first | refine blk_drewN ?_ _ | refine blk_drew ?_ | refine blk_alloc ?_ _)); refine blk_put (cs := #[.string (⟨#[]⟩ : ByteArray), .string (⟨#[]⟩ : ByteArray), .int .i64 (-1), .int .i64 0]) ?_ 3 _ rfl; (with_reducible repeat (first | refine blk_drewN ?_ _ | refine blk_drew ?_ | refine blk_alloc ?_ _)); refine blk_put (cs := #[.string (⟨#[]⟩ : ByteArray), .string (⟨#[]⟩ : ByteArray), .int .i64 0, .int .i64 0]) ?_ 2 _ rfl; (with_reducible repeat (first | refine blk_drewN ?_ _ | refine blk_drew ?_ | refine blk_alloc ?_ _)); refine blk_put (cs := #[.string (⟨#[]⟩ : ByteArray), .string (⟨#[]⟩ : ByteArray), .int .i64 0, .int .i64 0]) ?_ 1 _ rfl; (with_reducible repeat (first | refine blk_drewN ?_ _ | refine blk_drew ?_ | refine blk_alloc ?_ _)); refine blk_put (cs := #[.string (⟨#[]⟩ : ByteArray), .string (⟨#[]⟩ : ByteArray), .int .i64 0, .int .i64 0]) ?_ 0 _ rfl; (with_reducible repeat (first | refine blk_drewN ?_ _ | refine blk_drew ?_ | refine blk_alloc ?_ _)); exact BK168.out⟩, ⟨by repeat (first | (with_reducible first | exact HB.out | apply below_alloc | apply pw_below_drewN | apply below_drew1 | refine below_set ?_ GE161.out | refine below_set ?_ GE168.out) | exact HB.out)⟩⟩
    case rest =>
     clear HC15
     try clear c1
     try clear p1
     try clear q1
     try clear hx1
     try clear qi1
     try clear c2
     try clear p2
     try clear c3
     try clear c4
     try clear c4b0
     try clear c5
     try clear c5b0
     try clear p6
     try clear c13
     try clear c16
     try clear c16b0
     try clear c16b1
     try clear p16
     try clear q16
     try clear hx16
     try clear qi16
     try clear c17
     try clear c17b0
     try clear c17b1
     try clear hcz14_0
     try clear hcz14_1
     try clear hcz14_2
     try clear hcz14_3
     try clear hfz14_0
     try clear hfz14_1
     try clear hfz14_2
     try clear hfz14_3
     try clear hx165_0
     try clear hx169_0
     try clear p165
     try clear p169
     try clear q165
     try clear q169
     obtain ⟨kq, x22_14, rfl, HA, HJ14, HO_4, BK161, BK168, HB⟩ := hcut
     cases kq with
     | zero => exact absurd HA.out (by simp [endorse_read.j0])
     | succ kj14 =>
      have H := HA.out
      clear HA
      simp only [endorse_read.j0] at H
      by_cases c18 : x22_14 = true
      ·subst c18
       have H1 : (if 1 < (t162.length : Int) then (if 2 < (t162.length : Int) then (endorse_read.j2 kj14 a0 (rdOf ByteArray.empty t162 1) (rdOf ByteArray.empty t162 2) 0 t166) else (none)) else (none)) = some (r1, r2, r3, r4, r5) := by rw [if_pos rfl] at H; exact H
       clear H
       have H := H1
       clear H1
       by_cases c19 : 1 < (t162.length : Int)
       ·rw [if_pos c19] at H
        have c19b0 : decide (1 < (t162.length : Int)) = true := decide_eq_true c19
        have c19b1 : decide (1 < t162.length) = true := decide_eq_true (by omega)
        clear c19
        by_cases c20 : 2 < (t162.length : Int)
        ·rw [if_pos c20] at H
         have c20b0 : decide (2 < (t162.length : Int)) = true := decide_eq_true c20
         have c20b1 : decide (2 < t162.length) = true := decide_eq_true (by omega)
         clear c20
         have H' := Aside0.mk H
         clear H
         try go_wp2
         have n0_ := Aside0.mk (Kd.R_drew HO_4.out)
         have n1_ := Aside0.mk (blk_drew BK161.out)
         have n2_ := Aside0.mk (blk_drew BK168.out)
         have n3_ := Aside0.mk (below_drew1 HB.out)
         clear HO_4
         clear BK161
         clear BK168
         clear HB
         have HO_4 := n0_
         have BK161 := n1_
         have BK168 := n2_
         have HB := n3_
         clear n0_ n1_ n2_ n3_
         have p170 : 0 ≤ (1 : Int) := (by omega)
         have q170 : 1 < (t162.length : Int) := of_decide_eq_true (by first | (with_reducible assumption) | assumption)
         obtain ⟨ad170, e170, hx170_0⟩ := Kd.at_string (Kd.R_reads' HO_4.out).2.2 1 p170 q170
         obtain rfl : ad165 = ad170 := (by injection e170)
         (try simp only [show (1 : Int).toNat = 1 from rfl, Nat.reduceMul, Nat.reduceEqDiff, Go.Addr.add, ↓reduceIte] at hx170_0)
         have qi170 : (1 < t162.length) = True := eq_true (by omega)
         (try rw [show ((1 : Int)).toNat = 1 from rfl] at hx170_0)
         replace p170 := eq_true p170
         replace q170 := eq_true q170
         have p171 : 0 ≤ (2 : Int) := (by omega)
         have q171 : 2 < (t162.length : Int) := of_decide_eq_true (by first | (with_reducible assumption) | assumption)
         obtain ⟨ad171, e171, hx171_0⟩ := Kd.at_string (Kd.R_reads' HO_4.out).2.2 2 p171 q171
         obtain rfl : ad165 = ad171 := (by injection e171)
         (try simp only [show (2 : Int).toNat = 2 from rfl, Nat.reduceMul, Nat.reduceEqDiff, Go.Addr.add, ↓reduceIte] at hx171_0)
         have qi171 : (2 < t162.length) = True := eq_true (by omega)
         (try rw [show ((2 : Int)).toNat = 2 from rfl] at hx171_0)
         replace p171 := eq_true p171
         replace q171 := eq_true q171
         refine start_ (n := 12) (S := fun w' => w'.cell? ⟨ad165.block, ad165.off + 1, none⟩ = some (.string (rdOf ByteArray.empty t162 1)) ∧ w'.cell? ⟨ad165.block, ad165.off + 2, none⟩ = some (.string (rdOf ByteArray.empty t162 2))) (ds := []) #[false, false, false, false, false, false, false, false, false, false, false, false] (by kernel_rfl) rfl rfl ⟨hx170_0, hx171_0⟩ (fun hHeld => ?_); refine with_tabW endorse_read.tab5 endorse_read.bits5 (fun HT_ HW_ => ?_)
         generalize wc.drew = w21 at HO_4 BK161 BK168 HB hx170_0 hx171_0 hHeld ⊢
         refine pure_ (i := 0) (N := some 32) (v := ?_) (a' := ?_) #[true, false, false, false, false, false, false, false, false, false, false, false] rfl rfl (any_of HT_.out (by kernel_rfl)) (fun _ _ _ h => h) (Or.inl ⟨by rfl, ?_⟩) ?_ ?_
         rotate_left
         ·intro w'
          go_simp
          with_reducible rfl
         rotate_left
         ·simp only [Act.put, setIfInBounds_toArray, set_cons_zero, set_cons_succ, i64_w]
          rfl
         refine pure_ (i := 1) (N := some 33) (v := ?_) (a' := ?_) #[true, true, false, false, false, false, false, false, false, false, false, false] rfl rfl (any_of HT_.out (by kernel_rfl)) (fun _ _ _ h => h) (Or.inl ⟨by rfl, ?_⟩) ?_ ?_
         rotate_left
         ·intro w'
          go_simp
          with_reducible rfl
         rotate_left
         ·simp only [Act.put, setIfInBounds_toArray, set_cons_zero, set_cons_succ, i64_w]
          rfl
         refine pure_ (i := 3) (N := some 35) (v := ?_) (a' := ?_) #[true, true, false, true, false, false, false, false, false, false, false, false] rfl rfl (any_of HT_.out (by kernel_rfl)) (fun _ _ _ h => h) (Or.inl ⟨by rfl, ?_⟩) ?_ ?_
         rotate_left
         ·intro w'
          go_simp
          with_reducible rfl
         rotate_left
         ·simp only [Act.put, setIfInBounds_toArray, set_cons_zero, set_cons_succ, i64_w]
          rfl
         refine pure_ (i := 4) (N := some 36) (v := ?_) (a' := ?_) #[true, true, false, true, true, false, false, false, false, false, false, false] rfl rfl (any_of HT_.out (by kernel_rfl)) (fun _ _ _ h => h) (Or.inl ⟨by rfl, ?_⟩) ?_ ?_
         rotate_left
         ·intro w'
          go_simp
          with_reducible rfl
         rotate_left
         ·simp only [Act.put, setIfInBounds_toArray, set_cons_zero, set_cons_succ, i64_w]
          rfl
         refine pure_ (i := 6) (N := some 38) (v := ?_) (a' := ?_) #[true, true, false, true, true, false, true, false, false, false, false, false] rfl rfl (any_of HT_.out (by kernel_rfl)) (fun _ _ _ h => h) (Or.inl ⟨by rfl, ?_⟩) ?_ ?_
         rotate_left
         ·intro w'
          go_simp
          with_reducible rfl
         rotate_left
         ·simp only [Act.put, setIfInBounds_toArray, set_cons_zero, set_cons_succ, i64_w]
          rfl
         refine take_ (i := 2) (N := some 34) (v := ?_) (a' := ?_) #[true, true, true, true, true, false, true, false, false, false, false, false] rfl rfl (take_ofW HT_.out HW_.out (by kernel_rfl)) (fun _ _ _ h => h) (Or.inl ⟨by rfl, ?_⟩) hHeld ?_ ?_
         rotate_left
         ·rintro w' ⟨s0, s1⟩
          go_simp
          with_reducible rfl
         rotate_left
         ·simp only [Act.put, setIfInBounds_toArray, set_cons_zero, set_cons_succ, i64_w]
          rfl
         refine take_ (i := 5) (N := some 37) (v := ?_) (a' := ?_) #[true, true, true, true, true, true, true, false, false, false, false, false] rfl rfl (take_ofW HT_.out HW_.out (by kernel_rfl)) (fun _ _ _ h => h) (Or.inl ⟨by rfl, ?_⟩) hHeld ?_ ?_
         rotate_left
         ·rintro w' ⟨s0, s1⟩
          go_simp
          with_reducible rfl
         rotate_left
         ·simp only [Act.put, setIfInBounds_toArray, set_cons_zero, set_cons_succ, i64_w]
          rfl
         refine one_ (i := 7) (N := none) #[true, true, true, true, true, true, true, true, false, false, false, false] rfl rfl (one_of HT_.out (by kernel_rfl)) (by decide) (fun K hK => ?_)
         have hs22 : w21.cell? ⟨gb168, 2, none⟩ = some (.int .i64 (-1)) := (blk_cell BK168.out 2).trans rfl
         have hfs22 := blk_frozen BK168.out 2
         have hns22_0 := NB161_168.out
         have hms22_0 := NB168_161.out
         refine skip_ (w1 := ?_) (by rfl) rfl ?_ ?_
         rotate_left
         ·go_simp
          rfl
         refine hK.out _ _ ⟨((cell_far (p := ⟨gb168, _, none⟩) (by first | exact Kd.own_blk (Kd.R_ne HO_4.out BK168.out (by decide)) | (rw [add_block]; exact Kd.own_blk (Kd.R_ne HO_4.out BK168.out (by decide))) | (show (Addr.add _ _).block ≠ _; rw [add_block]; exact Kd.own_blk (Kd.R_ne HO_4.out BK168.out (by decide))) | (dsimp only; exact Kd.own_blk (Kd.R_ne HO_4.out BK168.out (by decide)))) _).trans (hHeld.1)), ((cell_far (p := ⟨gb168, _, none⟩) (by first | exact Kd.own_blk (Kd.R_ne HO_4.out BK168.out (by decide)) | (rw [add_block]; exact Kd.own_blk (Kd.R_ne HO_4.out BK168.out (by decide))) | (show (Addr.add _ _).block ≠ _; rw [add_block]; exact Kd.own_blk (Kd.R_ne HO_4.out BK168.out (by decide))) | (dsimp only; exact Kd.own_blk (Kd.R_ne HO_4.out BK168.out (by decide)))) _).trans (hHeld.2))⟩ (fun hHeld => ?_)
         clear hK K
         refine pure_ (i := 8) (N := some 39) (v := ?_) (a' := ?_) #[true, true, true, true, true, true, true, true, true, false, false, false] rfl rfl (any_of HT_.out (by kernel_rfl)) (fun _ _ _ h => h) (Or.inl ⟨by rfl, ?_⟩) ?_ ?_
         rotate_left
         ·intro w'
          go_simp
          with_reducible rfl
         rotate_left
         ·simp only [Act.put, setIfInBounds_toArray, set_cons_zero, set_cons_succ, i64_w]
          rfl
         refine one_ (i := 9) (N := none) #[true, true, true, true, true, true, true, true, true, true, false, false] rfl rfl (one_of HT_.out (by kernel_rfl)) (by decide) (fun K hK => ?_)
         have hs23 : w21.cell? ⟨gb168, 0, none⟩ = some (.string (⟨#[]⟩ : ByteArray)) := (blk_cell BK168.out 0).trans rfl
         have hfs23 := blk_frozen BK168.out 0
         have hns23_0 := NB161_168.out
         have hms23_0 := NB168_161.out
         refine skip_ (w1 := ?_) (by rfl) rfl ?_ ?_
         rotate_left
         ·go_simp
          rfl
         refine hK.out _ _ ⟨((cell_far (p := ⟨gb168, _, none⟩) (by first | exact Kd.own_blk (Kd.R_ne HO_4.out BK168.out (by decide)) | (rw [add_block]; exact Kd.own_blk (Kd.R_ne HO_4.out BK168.out (by decide))) | (show (Addr.add _ _).block ≠ _; rw [add_block]; exact Kd.own_blk (Kd.R_ne HO_4.out BK168.out (by decide))) | (dsimp only; exact Kd.own_blk (Kd.R_ne HO_4.out BK168.out (by decide)))) _).trans (hHeld.1)), ((cell_far (p := ⟨gb168, _, none⟩) (by first | exact Kd.own_blk (Kd.R_ne HO_4.out BK168.out (by decide)) | (rw [add_block]; exact Kd.own_blk (Kd.R_ne HO_4.out BK168.out (by decide))) | (show (Addr.add _ _).block ≠ _; rw [add_block]; exact Kd.own_blk (Kd.R_ne HO_4.out BK168.out (by decide))) | (dsimp only; exact Kd.own_blk (Kd.R_ne HO_4.out BK168.out (by decide)))) _).trans (hHeld.2))⟩ (fun hHeld => ?_)
         clear hK K
         refine pure_ (i := 10) (N := some 40) (v := ?_) (a' := ?_) #[true, true, true, true, true, true, true, true, true, true, true, false] rfl rfl (any_of HT_.out (by kernel_rfl)) (fun _ _ _ h => h) (Or.inl ⟨by rfl, ?_⟩) ?_ ?_
         rotate_left
         ·intro w'
          go_simp
          with_reducible rfl
         rotate_left
         ·simp only [Act.put, setIfInBounds_toArray, set_cons_zero, set_cons_succ, i64_w]
          rfl
         refine one_ (i := 11) (N := none) #[true, true, true, true, true, true, true, true, true, true, true, true] rfl rfl (one_of HT_.out (by kernel_rfl)) (by decide) (fun K hK => ?_)
         have hs24 : w21.cell? ⟨gb168, 1, none⟩ = some (.string (⟨#[]⟩ : ByteArray)) := (blk_cell BK168.out 1).trans rfl
         have hfs24 := blk_frozen BK168.out 1
         have hns24_0 := NB161_168.out
         have hms24_0 := NB168_161.out
         refine skip_ (w1 := ?_) (by rfl) rfl ?_ ?_
         rotate_left
         ·go_simp
          rfl
         refine hK.out _ _ ⟨((cell_far (p := ⟨gb168, _, none⟩) (by first | exact Kd.own_blk (Kd.R_ne HO_4.out BK168.out (by decide)) | (rw [add_block]; exact Kd.own_blk (Kd.R_ne HO_4.out BK168.out (by decide))) | (show (Addr.add _ _).block ≠ _; rw [add_block]; exact Kd.own_blk (Kd.R_ne HO_4.out BK168.out (by decide))) | (dsimp only; exact Kd.own_blk (Kd.R_ne HO_4.out BK168.out (by decide)))) _).trans (hHeld.1)), ((cell_far (p := ⟨gb168, _, none⟩) (by first | exact Kd.own_blk (Kd.R_ne HO_4.out BK168.out (by decide)) | (rw [add_block]; exact Kd.own_blk (Kd.R_ne HO_4.out BK168.out (by decide))) | (show (Addr.add _ _).block ≠ _; rw [add_block]; exact Kd.own_blk (Kd.R_ne HO_4.out BK168.out (by decide))) | (dsimp only; exact Kd.own_blk (Kd.R_ne HO_4.out BK168.out (by decide)))) _).trans (hHeld.2))⟩ (fun hHeld => ?_)
         clear hK K
         refine done_ (done_of HT_.out (by kernel_rfl)) ?_
         try go_wp2
         go_meet
         case rel => exact ⟨_, (rdOf ByteArray.empty t162 1), (rdOf ByteArray.empty t162 2), (0), H', ⟨by have := HJ14.out; first | omega | exact Nat.le_refl _⟩, ⟨by (with_reducible repeat (first | refine blk_drewN ?_ _ | refine blk_drew ?_ | refine blk_alloc ?_ _)); refine blk_far ?_ NB161_168.out _; (with_reducible repeat (first | refine blk_drewN ?_ _ | refine blk_drew ?_ | refine blk_alloc ?_ _)); refine blk_far ?_ NB161_168.out _; (with_reducible repeat (first | refine blk_drewN ?_ _ | refine blk_drew ?_ | refine blk_alloc ?_ _)); refine blk_far ?_ NB161_168.out _; (with_reducible repeat (first | refine blk_drewN ?_ _ | refine blk_drew ?_ | refine blk_alloc ?_ _)); exact BK161.out⟩, ⟨by (with_reducible repeat (first | refine blk_drewN ?_ _ | refine blk_drew ?_ | refine blk_alloc ?_ _)); refine blk_put (cs := #[.string (rdOf ByteArray.empty t162 1), .string (⟨#[]⟩ : ByteArray), .int .i64 0, .int .i64 t166]) ?_ 1 _ rfl; (with_reducible repeat (first | refine blk_drewN ?_ _ | refine blk_drew ?_ | refine blk_alloc ?_ _)); refine blk_put (cs := #[.string (⟨#[]⟩ : ByteArray), .string (⟨#[]⟩ : ByteArray), .int .i64 0, .int .i64 t166]) ?_ 0 _ rfl; (with_reducible repeat (first | refine blk_drewN ?_ _ | refine blk_drew ?_ | refine blk_alloc ?_ _)); refine blk_put (cs := #[.string (⟨#[]⟩ : ByteArray), .string (⟨#[]⟩ : ByteArray), .int .i64 (-1), .int .i64 t166]) ?_ 2 _ rfl; (with_reducible repeat (first | refine blk_drewN ?_ _ | refine blk_drew ?_ | refine blk_alloc ?_ _)); exact BK168.out⟩, ⟨by repeat (first | (with_reducible first | exact HB.out | apply below_alloc | apply pw_below_drewN | apply below_drew1 | refine below_set ?_ GE161.out | refine below_set ?_ GE168.out) | exact HB.out)⟩⟩
        ·rw [if_neg c20] at H
         exact absurd H (by simp)
       ·rw [if_neg c19] at H
        exact absurd H (by simp)
      ·replace c18 := Bool.eq_false_iff.mpr c18
       subst c18
       have H1 : (if (t162.length : Int) = 3 then (if 0 < (t162.length : Int) then (endorse_read.j1 kj14 a0 t162 ((rdOf ByteArray.empty t162 0).toList == ([98, 108, 97, 110, 107] : List UInt8)) (⟨#[]⟩ : ByteArray) (⟨#[]⟩ : ByteArray) (-1) t166) else (none)) else (endorse_read.j1 kj14 a0 t162 false (⟨#[]⟩ : ByteArray) (⟨#[]⟩ : ByteArray) (-1) t166)) = some (r1, r2, r3, r4, r5) := by rw [if_neg (show ¬ (false = true) by decide)] at H; exact H
       clear H
       have H := H1
       clear H1
       have HC25 := Aside0.mk H
       clear H
       go_upto_region 6 with (fail)
       go_cut [41] (fun v41 wc => ∃ (kq : Nat) (x41_24 : Bool), v41 = .bool x41_24 ∧ Aside0 (endorse_read.j1 kq a0 t162 x41_24 (⟨#[]⟩ : ByteArray) (⟨#[]⟩ : ByteArray) (-1) t166 = some (r1, r2, r3, r4, r5)) ∧ Aside0 (kq ≤ kj14) ∧ Aside0 (Kd.R Kd.string 9 wc w.heap.size (fun _ => True) (.slice (some ad165) t162.length co10) t162) ∧ Aside0 (wc.heap[gb161]? = some (.cells #[.string (⟨#[]⟩ : ByteArray), .string (⟨#[]⟩ : ByteArray), .int .i64 0, .int .i64 0] 34 (0, 0))) ∧ Aside0 (wc.heap[gb168]? = some (.cells #[.string (⟨#[]⟩ : ByteArray), .string (⟨#[]⟩ : ByteArray), .int .i64 (-1), .int .i64 t166] 34 (0, 0))) ∧ Aside0 (Below w.heap.size w wc))
       case first =>
        have H := HC25.out
        clear HC25
        by_cases c26 : (t162.length : Int) = 3
        ·rw [if_pos c26] at H
         have c26b0 : ((t162.length : Int) == 3) = true := beq_iff_eq.mpr c26
         have c26b1 : ((t162.length : Int) != 3) = false := bne_eq_false_iff_eq.mpr c26
         clear c26
         (first | rw [c26b0] | (simp only [i64_w, i32_w]; rw [c26b0]) | skip)
         by_cases c27 : 0 < (t162.length : Int)
         ·rw [if_pos c27] at H
          have c27b0 : decide (0 < (t162.length : Int)) = true := decide_eq_true c27
          have c27b1 : decide (0 < t162.length) = true := decide_eq_true (by omega)
          clear c27
          have H' := Aside0.mk H
          clear H
          have p172 : 0 ≤ (0 : Int) := (by omega)
          have q172 : 0 < (t162.length : Int) := of_decide_eq_true (by first | (with_reducible assumption) | assumption)
          obtain ⟨ad172, e172, hx172_0⟩ := Kd.at_string (Kd.R_reads' HO_4.out).2.2 0 p172 q172
          obtain rfl : ad165 = ad172 := (by injection e172)
          have qi172 : (0 < t162.length) = True := eq_true (by omega)
          (try rw [show ((0 : Int)).toNat = 0 from rfl] at hx172_0)
          (try rw [Addr.add_zero'] at hx172_0)
          replace p172 := eq_true p172
          replace q172 := eq_true q172
          go_wp2
          go_meet
          case rel => exact ⟨_, (((rdOf ByteArray.empty t162 0).toList == ([98, 108, 97, 110, 107] : List UInt8))), (by first | rfl | (simp; done) | (simp [*]; done)), H', ⟨by have := HJ14.out; first | omega | exact Nat.le_refl _⟩, ⟨by (with_reducible repeat (first | apply Kd.R_alloc | apply Kd.R_drewN | apply Kd.R_drew)); exact HO_4.out⟩, ⟨by (with_reducible repeat (first | refine blk_drewN ?_ _ | refine blk_drew ?_ | refine blk_alloc ?_ _)); exact BK161.out⟩, ⟨by (with_reducible repeat (first | refine blk_drewN ?_ _ | refine blk_drew ?_ | refine blk_alloc ?_ _)); exact BK168.out⟩, ⟨by repeat (first | (with_reducible first | exact HB.out | apply below_alloc | apply pw_below_drewN | apply below_drew1 | refine below_set ?_ GE161.out | refine below_set ?_ GE168.out) | exact HB.out)⟩⟩
         ·rw [if_neg c27] at H
          exact absurd H (by simp)
        ·rw [if_neg c26] at H
         have c26b0 : ((t162.length : Int) == 3) = false := beq_eq_false_iff_ne.mpr c26
         have c26b1 : ((t162.length : Int) != 3) = true := bne_iff_ne.mpr c26
         (first | rw [c26b0] | (simp only [i64_w, i32_w]; rw [c26b0]) | skip)
         have H' := Aside0.mk H
         clear H
         go_wp2
         go_meet
         case rel => exact ⟨_, (false), (by first | rfl | (simp; done) | (simp [*]; done)), H', ⟨by have := HJ14.out; first | omega | exact Nat.le_refl _⟩, ⟨by (with_reducible repeat (first | apply Kd.R_alloc | apply Kd.R_drewN | apply Kd.R_drew)); exact HO_4.out⟩, ⟨by (with_reducible repeat (first | refine blk_drewN ?_ _ | refine blk_drew ?_ | refine blk_alloc ?_ _)); exact BK161.out⟩, ⟨by (with_reducible repeat (first | refine blk_drewN ?_ _ | refine blk_drew ?_ | refine blk_alloc ?_ _)); exact BK168.out⟩, ⟨by repeat (first | (with_reducible first | exact HB.out | apply below_alloc | apply pw_below_drewN | apply below_drew1 | refine below_set ?_ GE161.out | refine below_set ?_ GE168.out) | exact HB.out)⟩⟩
       case rest =>
        clear HC25
        try clear c1
        try clear p1
        try clear q1
        try clear hx1
        try clear qi1
        try clear c2
        try clear p2
        try clear c3
        try clear c4
        try clear c4b0
        try clear c5
        try clear c5b0
        try clear p6
        try clear c13
        try clear c16
        try clear c16b0
        try clear c16b1
        try clear p16
        try clear q16
        try clear hx16
        try clear qi16
        try clear c17
        try clear c17b0
        try clear c17b1
        try clear p17
        try clear q17
        try clear hx17
        try clear qi17
        try clear c18
        try clear c19
        try clear c19b0
        try clear c19b1
        try clear c20
        try clear c20b0
        try clear c20b1
        try clear c26
        try clear c26b0
        try clear c26b1
        try clear c27
        try clear c27b0
        try clear c27b1
        try clear hcz14_0
        try clear hcz14_1
        try clear hcz14_2
        try clear hcz14_3
        try clear hfz14_0
        try clear hfz14_1
        try clear hfz14_2
        try clear hfz14_3
        try clear hx165_0
        try clear hx169_0
        try clear hx170_0
        try clear hx171_0
        try clear hx172_0
        try clear p1
        try clear p16
        try clear p165
        try clear p169
        try clear p170
        try clear p171
        try clear p172
        try clear p2
        try clear p6
        try clear q1
        try clear q16
        try clear q165
        try clear q169
        try clear q170
        try clear q171
        try clear q172
        obtain ⟨kq, x41_24, rfl, HA, HJ24, HO_4, BK161, BK168, HB⟩ := hcut
        cases kq with
        | zero => exact absurd HA.out (by simp [endorse_read.j1])
        | succ kj24 =>
         have H := HA.out
         clear HA
         simp only [endorse_read.j1] at H
         by_cases c28 : x41_24 = true
         ·subst c28
          have H1 : (if 1 < (t162.length : Int) then (endorse_read.j2 kj24 a0 (rdOf ByteArray.empty t162 1) (⟨#[]⟩ : ByteArray) 1 t166) else (none)) = some (r1, r2, r3, r4, r5) := by rw [if_pos rfl] at H; exact H
          clear H
          have H := H1
          clear H1
          by_cases c29 : 1 < (t162.length : Int)
          ·rw [if_pos c29] at H
           have c29b0 : decide (1 < (t162.length : Int)) = true := decide_eq_true c29
           have c29b1 : decide (1 < t162.length) = true := decide_eq_true (by omega)
           clear c29
           have H' := Aside0.mk H
           clear H
           try go_wp2
           have n0_ := Aside0.mk (Kd.R_drew HO_4.out)
           have n1_ := Aside0.mk (blk_drew BK161.out)
           have n2_ := Aside0.mk (blk_drew BK168.out)
           have n3_ := Aside0.mk (below_drew1 HB.out)
           clear HO_4
           clear BK161
           clear BK168
           clear HB
           have HO_4 := n0_
           have BK161 := n1_
           have BK168 := n2_
           have HB := n3_
           clear n0_ n1_ n2_ n3_
           have p173 : 0 ≤ (1 : Int) := (by omega)
           have q173 : 1 < (t162.length : Int) := of_decide_eq_true (by first | (with_reducible assumption) | assumption)
           obtain ⟨ad173, e173, hx173_0⟩ := Kd.at_string (Kd.R_reads' HO_4.out).2.2 1 p173 q173
           obtain rfl : ad165 = ad173 := (by injection e173)
           (try simp only [show (1 : Int).toNat = 1 from rfl, Nat.reduceMul, Nat.reduceEqDiff, Go.Addr.add, ↓reduceIte] at hx173_0)
           have qi173 : (1 < t162.length) = True := eq_true (by omega)
           (try rw [show ((1 : Int)).toNat = 1 from rfl] at hx173_0)
           replace p173 := eq_true p173
           replace q173 := eq_true q173
           refine start_ (n := 7) (S := fun w' => w'.cell? ⟨ad165.block, ad165.off + 1, none⟩ = some (.string (rdOf ByteArray.empty t162 1))) (ds := []) #[false, false, false, false, false, false, false] (by kernel_rfl) rfl rfl (hx173_0) (fun hHeld => ?_)
           generalize wc.drew = w30 at HO_4 BK161 BK168 HB hx173_0 hHeld ⊢
           refine pure_ (i := 0) (N := some 51) (v := ?_) (a' := ?_) #[true, false, false, false, false, false, false] rfl rfl (by kernel_rfl) (fun _ _ _ h => h) (Or.inl ⟨by rfl, ?_⟩) ?_ ?_
           rotate_left
           ·intro w'
            go_simp
            with_reducible rfl
           rotate_left
           ·simp only [Act.put, setIfInBounds_toArray, set_cons_zero, set_cons_succ, i64_w]
            rfl
           refine pure_ (i := 1) (N := some 52) (v := ?_) (a' := ?_) #[true, true, false, false, false, false, false] rfl rfl (by kernel_rfl) (fun _ _ _ h => h) (Or.inl ⟨by rfl, ?_⟩) ?_ ?_
           rotate_left
           ·intro w'
            go_simp
            with_reducible rfl
           rotate_left
           ·simp only [Act.put, setIfInBounds_toArray, set_cons_zero, set_cons_succ, i64_w]
            rfl
           refine pure_ (i := 3) (N := some 54) (v := ?_) (a' := ?_) #[true, true, false, true, false, false, false] rfl rfl (by kernel_rfl) (fun _ _ _ h => h) (Or.inl ⟨by rfl, ?_⟩) ?_ ?_
           rotate_left
           ·intro w'
            go_simp
            with_reducible rfl
           rotate_left
           ·simp only [Act.put, setIfInBounds_toArray, set_cons_zero, set_cons_succ, i64_w]
            rfl
           refine take_ (i := 2) (N := some 53) (v := ?_) (a' := ?_) #[true, true, true, true, false, false, false] rfl rfl (by kernel_rfl) (fun _ _ _ h => h) (Or.inl ⟨by rfl, ?_⟩) hHeld ?_ ?_
           rotate_left
           ·intro w' s0
            go_simp
            with_reducible rfl
           rotate_left
           ·simp only [Act.put, setIfInBounds_toArray, set_cons_zero, set_cons_succ, i64_w]
            rfl
           refine one_ (i := 4) (N := none) #[true, true, true, true, true, false, false] rfl rfl (by kernel_rfl) (by decide) (fun K hK => ?_)
           have hs31 : w30.cell? ⟨gb168, 2, none⟩ = some (.int .i64 (-1)) := (blk_cell BK168.out 2).trans rfl
           have hfs31 := blk_frozen BK168.out 2
           have hns31_0 := NB161_168.out
           have hms31_0 := NB168_161.out
           refine skip_ (w1 := ?_) (by rfl) rfl ?_ ?_
           rotate_left
           ·go_simp
            rfl
           refine hK.out _ _ (((cell_far (p := ⟨gb168, _, none⟩) (by first | exact Kd.own_blk (Kd.R_ne HO_4.out BK168.out (by decide)) | (rw [add_block]; exact Kd.own_blk (Kd.R_ne HO_4.out BK168.out (by decide))) | (show (Addr.add _ _).block ≠ _; rw [add_block]; exact Kd.own_blk (Kd.R_ne HO_4.out BK168.out (by decide))) | (dsimp only; exact Kd.own_blk (Kd.R_ne HO_4.out BK168.out (by decide)))) _).trans (hHeld))) (fun hHeld => ?_)
           clear hK K
           refine pure_ (i := 5) (N := some 55) (v := ?_) (a' := ?_) #[true, true, true, true, true, true, false] rfl rfl (by kernel_rfl) (fun _ _ _ h => h) (Or.inl ⟨by rfl, ?_⟩) ?_ ?_
           rotate_left
           ·intro w'
            go_simp
            with_reducible rfl
           rotate_left
           ·simp only [Act.put, setIfInBounds_toArray, set_cons_zero, set_cons_succ, i64_w]
            rfl
           refine one_ (i := 6) (N := none) #[true, true, true, true, true, true, true] rfl rfl (by kernel_rfl) (by decide) (fun K hK => ?_)
           have hs32 : w30.cell? ⟨gb168, 0, none⟩ = some (.string (⟨#[]⟩ : ByteArray)) := (blk_cell BK168.out 0).trans rfl
           have hfs32 := blk_frozen BK168.out 0
           have hns32_0 := NB161_168.out
           have hms32_0 := NB168_161.out
           refine skip_ (w1 := ?_) (by rfl) rfl ?_ ?_
           rotate_left
           ·go_simp
            rfl
           refine hK.out _ _ (((cell_far (p := ⟨gb168, _, none⟩) (by first | exact Kd.own_blk (Kd.R_ne HO_4.out BK168.out (by decide)) | (rw [add_block]; exact Kd.own_blk (Kd.R_ne HO_4.out BK168.out (by decide))) | (show (Addr.add _ _).block ≠ _; rw [add_block]; exact Kd.own_blk (Kd.R_ne HO_4.out BK168.out (by decide))) | (dsimp only; exact Kd.own_blk (Kd.R_ne HO_4.out BK168.out (by decide)))) _).trans (hHeld))) (fun hHeld => ?_)
           clear hK K
           refine done_ (by kernel_rfl) ?_
           try go_wp2
           go_meet
           case rel => exact ⟨_, (rdOf ByteArray.empty t162 1), ((⟨#[]⟩ : ByteArray)), (1), H', ⟨by have := HJ14.out; have := HJ24.out; first | omega | exact Nat.le_refl _⟩, ⟨by (with_reducible repeat (first | refine blk_drewN ?_ _ | refine blk_drew ?_ | refine blk_alloc ?_ _)); refine blk_far ?_ NB161_168.out _; (with_reducible repeat (first | refine blk_drewN ?_ _ | refine blk_drew ?_ | refine blk_alloc ?_ _)); refine blk_far ?_ NB161_168.out _; (with_reducible repeat (first | refine blk_drewN ?_ _ | refine blk_drew ?_ | refine blk_alloc ?_ _)); exact BK161.out⟩, ⟨by (with_reducible repeat (first | refine blk_drewN ?_ _ | refine blk_drew ?_ | refine blk_alloc ?_ _)); refine blk_put (cs := #[.string (⟨#[]⟩ : ByteArray), .string (⟨#[]⟩ : ByteArray), .int .i64 1, .int .i64 t166]) ?_ 0 _ rfl; (with_reducible repeat (first | refine blk_drewN ?_ _ | refine blk_drew ?_ | refine blk_alloc ?_ _)); refine blk_put (cs := #[.string (⟨#[]⟩ : ByteArray), .string (⟨#[]⟩ : ByteArray), .int .i64 (-1), .int .i64 t166]) ?_ 2 _ rfl; (with_reducible repeat (first | refine blk_drewN ?_ _ | refine blk_drew ?_ | refine blk_alloc ?_ _)); exact BK168.out⟩, ⟨by repeat (first | (with_reducible first | exact HB.out | apply below_alloc | apply pw_below_drewN | apply below_drew1 | refine below_set ?_ GE161.out | refine below_set ?_ GE168.out) | exact HB.out)⟩⟩
          ·rw [if_neg c29] at H
           exact absurd H (by simp)
         ·replace c28 := Bool.eq_false_iff.mpr c28
          subst c28
          have H1 : (if (t162.length : Int) = 4 then (if 0 < (t162.length : Int) then (if (rdOf ByteArray.empty t162 0).toList = ([111, 110, 108, 121] : List UInt8) then (if 1 < (t162.length : Int) then (if 2 < (t162.length : Int) then (endorse_read.j2 kj24 a0 (rdOf ByteArray.empty t162 1) (rdOf ByteArray.empty t162 2) 2 t166) else (none)) else (none)) else (endorse_read.j2 kj24 a0 (⟨#[]⟩ : ByteArray) (⟨#[]⟩ : ByteArray) (-1) t166)) else (none)) else (endorse_read.j2 kj24 a0 (⟨#[]⟩ : ByteArray) (⟨#[]⟩ : ByteArray) (-1) t166)) = some (r1, r2, r3, r4, r5) := by rw [if_neg (show ¬ (false = true) by decide)] at H; exact H
          clear H
          have H := H1
          clear H1
          by_cases c33 : (t162.length : Int) = 4
          ·rw [if_pos c33] at H
           have c33b0 : ((t162.length : Int) == 4) = true := beq_iff_eq.mpr c33
           have c33b1 : ((t162.length : Int) != 4) = false := bne_eq_false_iff_eq.mpr c33
           clear c33
           by_cases c34 : 0 < (t162.length : Int)
           ·rw [if_pos c34] at H
            have c34b0 : decide (0 < (t162.length : Int)) = true := decide_eq_true c34
            have c34b1 : decide (0 < t162.length) = true := decide_eq_true (by omega)
            clear c34
            by_cases c35 : (rdOf ByteArray.empty t162 0).toList = ([111, 110, 108, 121] : List UInt8)
            ·rw [if_pos c35] at H
             have c35b0 : ((rdOf ByteArray.empty t162 0).toList == ([111, 110, 108, 121] : List UInt8)) = true := beq_iff_eq.mpr c35
             have c35b1 : ((rdOf ByteArray.empty t162 0).toList != ([111, 110, 108, 121] : List UInt8)) = false := bne_eq_false_iff_eq.mpr c35
             clear c35
             by_cases c36 : 1 < (t162.length : Int)
             ·rw [if_pos c36] at H
              have c36b0 : decide (1 < (t162.length : Int)) = true := decide_eq_true c36
              have c36b1 : decide (1 < t162.length) = true := decide_eq_true (by omega)
              clear c36
              by_cases c37 : 2 < (t162.length : Int)
              ·rw [if_pos c37] at H
               have c37b0 : decide (2 < (t162.length : Int)) = true := decide_eq_true c37
               have c37b1 : decide (2 < t162.length) = true := decide_eq_true (by omega)
               clear c37
               have H' := Aside0.mk H
               clear H
               have p174 : 0 ≤ (0 : Int) := (by omega)
               have q174 : 0 < (t162.length : Int) := of_decide_eq_true (by first | (with_reducible assumption) | assumption)
               obtain ⟨ad174, e174, hx174_0⟩ := Kd.at_string (Kd.R_reads' HO_4.out).2.2 0 p174 q174
               obtain rfl : ad165 = ad174 := (by injection e174)
               have qi174 : (0 < t162.length) = True := eq_true (by omega)
               (try rw [show ((0 : Int)).toNat = 0 from rfl] at hx174_0)
               (try rw [Addr.add_zero'] at hx174_0)
               replace p174 := eq_true p174
               replace q174 := eq_true q174
               try go_wp2
               have n0_ := Aside0.mk (Kd.R_drew HO_4.out)
               have n1_ := Aside0.mk (blk_drew BK161.out)
               have n2_ := Aside0.mk (blk_drew BK168.out)
               have n3_ := Aside0.mk (below_drew1 HB.out)
               clear HO_4
               clear BK161
               clear BK168
               clear HB
               have HO_4 := n0_
               have BK161 := n1_
               have BK168 := n2_
               have HB := n3_
               clear n0_ n1_ n2_ n3_
               have p175 : 0 ≤ (1 : Int) := (by omega)
               have q175 : 1 < (t162.length : Int) := of_decide_eq_true (by first | (with_reducible assumption) | assumption)
               obtain ⟨ad175, e175, hx175_0⟩ := Kd.at_string (Kd.R_reads' HO_4.out).2.2 1 p175 q175
               obtain rfl : ad165 = ad175 := (by injection e175)
               (try simp only [show (1 : Int).toNat = 1 from rfl, Nat.reduceMul, Nat.reduceEqDiff, Go.Addr.add, ↓reduceIte] at hx175_0)
               have qi175 : (1 < t162.length) = True := eq_true (by omega)
               (try rw [show ((1 : Int)).toNat = 1 from rfl] at hx175_0)
               replace p175 := eq_true p175
               replace q175 := eq_true q175
               have p176 : 0 ≤ (2 : Int) := (by omega)
               have q176 : 2 < (t162.length : Int) := of_decide_eq_true (by first | (with_reducible assumption) | assumption)
               obtain ⟨ad176, e176, hx176_0⟩ := Kd.at_string (Kd.R_reads' HO_4.out).2.2 2 p176 q176
               obtain rfl : ad165 = ad176 := (by injection e176)
               (try simp only [show (2 : Int).toNat = 2 from rfl, Nat.reduceMul, Nat.reduceEqDiff, Go.Addr.add, ↓reduceIte] at hx176_0)
               have qi176 : (2 < t162.length) = True := eq_true (by omega)
               (try rw [show ((2 : Int)).toNat = 2 from rfl] at hx176_0)
               replace p176 := eq_true p176
               replace q176 := eq_true q176
               refine start_ (n := 12) (S := fun w' => w'.cell? ⟨ad165.block, ad165.off + 1, none⟩ = some (.string (rdOf ByteArray.empty t162 1)) ∧ w'.cell? ⟨ad165.block, ad165.off + 2, none⟩ = some (.string (rdOf ByteArray.empty t162 2))) (ds := []) #[false, false, false, false, false, false, false, false, false, false, false, false] (by kernel_rfl) rfl rfl ⟨hx175_0, hx176_0⟩ (fun hHeld => ?_); refine with_tabW endorse_read.tab9 endorse_read.bits9 (fun HT_ HW_ => ?_)
               generalize wc.drew = w38 at HO_4 BK161 BK168 HB hx175_0 hx176_0 hHeld ⊢
               refine pure_ (i := 0) (N := some 66) (v := ?_) (a' := ?_) #[true, false, false, false, false, false, false, false, false, false, false, false] rfl rfl (any_of HT_.out (by kernel_rfl)) (fun _ _ _ h => h) (Or.inl ⟨by rfl, ?_⟩) ?_ ?_
               rotate_left
               ·intro w'
                go_simp
                with_reducible rfl
               rotate_left
               ·simp only [Act.put, setIfInBounds_toArray, set_cons_zero, set_cons_succ, i64_w]
                rfl
               refine pure_ (i := 1) (N := some 67) (v := ?_) (a' := ?_) #[true, true, false, false, false, false, false, false, false, false, false, false] rfl rfl (any_of HT_.out (by kernel_rfl)) (fun _ _ _ h => h) (Or.inl ⟨by rfl, ?_⟩) ?_ ?_
               rotate_left
               ·intro w'
                go_simp
                with_reducible rfl
               rotate_left
               ·simp only [Act.put, setIfInBounds_toArray, set_cons_zero, set_cons_succ, i64_w]
                rfl
               refine pure_ (i := 3) (N := some 69) (v := ?_) (a' := ?_) #[true, true, false, true, false, false, false, false, false, false, false, false] rfl rfl (any_of HT_.out (by kernel_rfl)) (fun _ _ _ h => h) (Or.inl ⟨by rfl, ?_⟩) ?_ ?_
               rotate_left
               ·intro w'
                go_simp
                with_reducible rfl
               rotate_left
               ·simp only [Act.put, setIfInBounds_toArray, set_cons_zero, set_cons_succ, i64_w]
                rfl
               refine pure_ (i := 4) (N := some 70) (v := ?_) (a' := ?_) #[true, true, false, true, true, false, false, false, false, false, false, false] rfl rfl (any_of HT_.out (by kernel_rfl)) (fun _ _ _ h => h) (Or.inl ⟨by rfl, ?_⟩) ?_ ?_
               rotate_left
               ·intro w'
                go_simp
                with_reducible rfl
               rotate_left
               ·simp only [Act.put, setIfInBounds_toArray, set_cons_zero, set_cons_succ, i64_w]
                rfl
               refine pure_ (i := 6) (N := some 72) (v := ?_) (a' := ?_) #[true, true, false, true, true, false, true, false, false, false, false, false] rfl rfl (any_of HT_.out (by kernel_rfl)) (fun _ _ _ h => h) (Or.inl ⟨by rfl, ?_⟩) ?_ ?_
               rotate_left
               ·intro w'
                go_simp
                with_reducible rfl
               rotate_left
               ·simp only [Act.put, setIfInBounds_toArray, set_cons_zero, set_cons_succ, i64_w]
                rfl
               refine take_ (i := 2) (N := some 68) (v := ?_) (a' := ?_) #[true, true, true, true, true, false, true, false, false, false, false, false] rfl rfl (take_ofW HT_.out HW_.out (by kernel_rfl)) (fun _ _ _ h => h) (Or.inl ⟨by rfl, ?_⟩) hHeld ?_ ?_
               rotate_left
               ·rintro w' ⟨s0, s1⟩
                go_simp
                with_reducible rfl
               rotate_left
               ·simp only [Act.put, setIfInBounds_toArray, set_cons_zero, set_cons_succ, i64_w]
                rfl
               refine take_ (i := 5) (N := some 71) (v := ?_) (a' := ?_) #[true, true, true, true, true, true, true, false, false, false, false, false] rfl rfl (take_ofW HT_.out HW_.out (by kernel_rfl)) (fun _ _ _ h => h) (Or.inl ⟨by rfl, ?_⟩) hHeld ?_ ?_
               rotate_left
               ·rintro w' ⟨s0, s1⟩
                go_simp
                with_reducible rfl
               rotate_left
               ·simp only [Act.put, setIfInBounds_toArray, set_cons_zero, set_cons_succ, i64_w]
                rfl
               refine one_ (i := 7) (N := none) #[true, true, true, true, true, true, true, true, false, false, false, false] rfl rfl (one_of HT_.out (by kernel_rfl)) (by decide) (fun K hK => ?_)
               have hs39 : w38.cell? ⟨gb168, 2, none⟩ = some (.int .i64 (-1)) := (blk_cell BK168.out 2).trans rfl
               have hfs39 := blk_frozen BK168.out 2
               have hns39_0 := NB161_168.out
               have hms39_0 := NB168_161.out
               refine skip_ (w1 := ?_) (by rfl) rfl ?_ ?_
               rotate_left
               ·go_simp
                rfl
               refine hK.out _ _ ⟨((cell_far (p := ⟨gb168, _, none⟩) (by first | exact Kd.own_blk (Kd.R_ne HO_4.out BK168.out (by decide)) | (rw [add_block]; exact Kd.own_blk (Kd.R_ne HO_4.out BK168.out (by decide))) | (show (Addr.add _ _).block ≠ _; rw [add_block]; exact Kd.own_blk (Kd.R_ne HO_4.out BK168.out (by decide))) | (dsimp only; exact Kd.own_blk (Kd.R_ne HO_4.out BK168.out (by decide)))) _).trans (hHeld.1)), ((cell_far (p := ⟨gb168, _, none⟩) (by first | exact Kd.own_blk (Kd.R_ne HO_4.out BK168.out (by decide)) | (rw [add_block]; exact Kd.own_blk (Kd.R_ne HO_4.out BK168.out (by decide))) | (show (Addr.add _ _).block ≠ _; rw [add_block]; exact Kd.own_blk (Kd.R_ne HO_4.out BK168.out (by decide))) | (dsimp only; exact Kd.own_blk (Kd.R_ne HO_4.out BK168.out (by decide)))) _).trans (hHeld.2))⟩ (fun hHeld => ?_)
               clear hK K
               refine pure_ (i := 8) (N := some 73) (v := ?_) (a' := ?_) #[true, true, true, true, true, true, true, true, true, false, false, false] rfl rfl (any_of HT_.out (by kernel_rfl)) (fun _ _ _ h => h) (Or.inl ⟨by rfl, ?_⟩) ?_ ?_
               rotate_left
               ·intro w'
                go_simp
                with_reducible rfl
               rotate_left
               ·simp only [Act.put, setIfInBounds_toArray, set_cons_zero, set_cons_succ, i64_w]
                rfl
               refine one_ (i := 9) (N := none) #[true, true, true, true, true, true, true, true, true, true, false, false] rfl rfl (one_of HT_.out (by kernel_rfl)) (by decide) (fun K hK => ?_)
               have hs40 : w38.cell? ⟨gb168, 0, none⟩ = some (.string (⟨#[]⟩ : ByteArray)) := (blk_cell BK168.out 0).trans rfl
               have hfs40 := blk_frozen BK168.out 0
               have hns40_0 := NB161_168.out
               have hms40_0 := NB168_161.out
               refine skip_ (w1 := ?_) (by rfl) rfl ?_ ?_
               rotate_left
               ·go_simp
                rfl
               refine hK.out _ _ ⟨((cell_far (p := ⟨gb168, _, none⟩) (by first | exact Kd.own_blk (Kd.R_ne HO_4.out BK168.out (by decide)) | (rw [add_block]; exact Kd.own_blk (Kd.R_ne HO_4.out BK168.out (by decide))) | (show (Addr.add _ _).block ≠ _; rw [add_block]; exact Kd.own_blk (Kd.R_ne HO_4.out BK168.out (by decide))) | (dsimp only; exact Kd.own_blk (Kd.R_ne HO_4.out BK168.out (by decide)))) _).trans (hHeld.1)), ((cell_far (p := ⟨gb168, _, none⟩) (by first | exact Kd.own_blk (Kd.R_ne HO_4.out BK168.out (by decide)) | (rw [add_block]; exact Kd.own_blk (Kd.R_ne HO_4.out BK168.out (by decide))) | (show (Addr.add _ _).block ≠ _; rw [add_block]; exact Kd.own_blk (Kd.R_ne HO_4.out BK168.out (by decide))) | (dsimp only; exact Kd.own_blk (Kd.R_ne HO_4.out BK168.out (by decide)))) _).trans (hHeld.2))⟩ (fun hHeld => ?_)
               clear hK K
               refine pure_ (i := 10) (N := some 74) (v := ?_) (a' := ?_) #[true, true, true, true, true, true, true, true, true, true, true, false] rfl rfl (any_of HT_.out (by kernel_rfl)) (fun _ _ _ h => h) (Or.inl ⟨by rfl, ?_⟩) ?_ ?_
               rotate_left
               ·intro w'
                go_simp
                with_reducible rfl
               rotate_left
               ·simp only [Act.put, setIfInBounds_toArray, set_cons_zero, set_cons_succ, i64_w]
                rfl
               refine one_ (i := 11) (N := none) #[true, true, true, true, true, true, true, true, true, true, true, true] rfl rfl (one_of HT_.out (by kernel_rfl)) (by decide) (fun K hK => ?_)
               have hs41 : w38.cell? ⟨gb168, 1, none⟩ = some (.string (⟨#[]⟩ : ByteArray)) := (blk_cell BK168.out 1).trans rfl
               have hfs41 := blk_frozen BK168.out 1
               have hns41_0 := NB161_168.out
               have hms41_0 := NB168_161.out
               refine skip_ (w1 := ?_) (by rfl) rfl ?_ ?_
               rotate_left
               ·go_simp
                rfl
               refine hK.out _ _ ⟨((cell_far (p := ⟨gb168, _, none⟩) (by first | exact Kd.own_blk (Kd.R_ne HO_4.out BK168.out (by decide)) | (rw [add_block]; exact Kd.own_blk (Kd.R_ne HO_4.out BK168.out (by decide))) | (show (Addr.add _ _).block ≠ _; rw [add_block]; exact Kd.own_blk (Kd.R_ne HO_4.out BK168.out (by decide))) | (dsimp only; exact Kd.own_blk (Kd.R_ne HO_4.out BK168.out (by decide)))) _).trans (hHeld.1)), ((cell_far (p := ⟨gb168, _, none⟩) (by first | exact Kd.own_blk (Kd.R_ne HO_4.out BK168.out (by decide)) | (rw [add_block]; exact Kd.own_blk (Kd.R_ne HO_4.out BK168.out (by decide))) | (show (Addr.add _ _).block ≠ _; rw [add_block]; exact Kd.own_blk (Kd.R_ne HO_4.out BK168.out (by decide))) | (dsimp only; exact Kd.own_blk (Kd.R_ne HO_4.out BK168.out (by decide)))) _).trans (hHeld.2))⟩ (fun hHeld => ?_)
               clear hK K
               refine done_ (done_of HT_.out (by kernel_rfl)) ?_
               try go_wp2
               go_meet
               case rel => exact ⟨_, (rdOf ByteArray.empty t162 1), (rdOf ByteArray.empty t162 2), (2), H', ⟨by have := HJ14.out; have := HJ24.out; first | omega | exact Nat.le_refl _⟩, ⟨by (with_reducible repeat (first | refine blk_drewN ?_ _ | refine blk_drew ?_ | refine blk_alloc ?_ _)); refine blk_far ?_ NB161_168.out _; (with_reducible repeat (first | refine blk_drewN ?_ _ | refine blk_drew ?_ | refine blk_alloc ?_ _)); refine blk_far ?_ NB161_168.out _; (with_reducible repeat (first | refine blk_drewN ?_ _ | refine blk_drew ?_ | refine blk_alloc ?_ _)); refine blk_far ?_ NB161_168.out _; (with_reducible repeat (first | refine blk_drewN ?_ _ | refine blk_drew ?_ | refine blk_alloc ?_ _)); exact BK161.out⟩, ⟨by (with_reducible repeat (first | refine blk_drewN ?_ _ | refine blk_drew ?_ | refine blk_alloc ?_ _)); refine blk_put (cs := #[.string (rdOf ByteArray.empty t162 1), .string (⟨#[]⟩ : ByteArray), .int .i64 2, .int .i64 t166]) ?_ 1 _ rfl; (with_reducible repeat (first | refine blk_drewN ?_ _ | refine blk_drew ?_ | refine blk_alloc ?_ _)); refine blk_put (cs := #[.string (⟨#[]⟩ : ByteArray), .string (⟨#[]⟩ : ByteArray), .int .i64 2, .int .i64 t166]) ?_ 0 _ rfl; (with_reducible repeat (first | refine blk_drewN ?_ _ | refine blk_drew ?_ | refine blk_alloc ?_ _)); refine blk_put (cs := #[.string (⟨#[]⟩ : ByteArray), .string (⟨#[]⟩ : ByteArray), .int .i64 (-1), .int .i64 t166]) ?_ 2 _ rfl; (with_reducible repeat (first | refine blk_drewN ?_ _ | refine blk_drew ?_ | refine blk_alloc ?_ _)); exact BK168.out⟩, ⟨by repeat (first | (with_reducible first | exact HB.out | apply below_alloc | apply pw_below_drewN | apply below_drew1 | refine below_set ?_ GE161.out | refine below_set ?_ GE168.out) | exact HB.out)⟩⟩
              ·rw [if_neg c37] at H
               exact absurd H (by simp)
             ·rw [if_neg c36] at H
              exact absurd H (by simp)
            ·rw [if_neg c35] at H
             have c35b0 : ((rdOf ByteArray.empty t162 0).toList == ([111, 110, 108, 121] : List UInt8)) = false := beq_eq_false_iff_ne.mpr c35
             have c35b1 : ((rdOf ByteArray.empty t162 0).toList != ([111, 110, 108, 121] : List UInt8)) = true := bne_iff_ne.mpr c35
             have H' := Aside0.mk H
             clear H
             have p174 : 0 ≤ (0 : Int) := (by omega)
             have q174 : 0 < (t162.length : Int) := of_decide_eq_true (by first | (with_reducible assumption) | assumption)
             obtain ⟨ad174, e174, hx174_0⟩ := Kd.at_string (Kd.R_reads' HO_4.out).2.2 0 p174 q174
             obtain rfl : ad165 = ad174 := (by injection e174)
             have qi174 : (0 < t162.length) = True := eq_true (by omega)
             (try rw [show ((0 : Int)).toNat = 0 from rfl] at hx174_0)
             (try rw [Addr.add_zero'] at hx174_0)
             replace p174 := eq_true p174
             replace q174 := eq_true q174
             go_wp2
             go_meet
             case rel => exact ⟨_, ((⟨#[]⟩ : ByteArray)), ((⟨#[]⟩ : ByteArray)), ((-1)), H', ⟨by have := HJ14.out; have := HJ24.out; first | omega | exact Nat.le_refl _⟩, ⟨by (with_reducible repeat (first | refine blk_drewN ?_ _ | refine blk_drew ?_ | refine blk_alloc ?_ _)); exact BK161.out⟩, ⟨by (with_reducible repeat (first | refine blk_drewN ?_ _ | refine blk_drew ?_ | refine blk_alloc ?_ _)); exact BK168.out⟩, ⟨by repeat (first | (with_reducible first | exact HB.out | apply below_alloc | apply pw_below_drewN | apply below_drew1 | refine below_set ?_ GE161.out | refine below_set ?_ GE168.out) | exact HB.out)⟩⟩
           ·rw [if_neg c34] at H
            exact absurd H (by simp)
          ·rw [if_neg c33] at H
           have c33b0 : ((t162.length : Int) == 4) = false := beq_eq_false_iff_ne.mpr c33
           have c33b1 : ((t162.length : Int) != 4) = true := bne_iff_ne.mpr c33
           have H' := Aside0.mk H
           clear H
           go_wp2
           go_meet
           case rel => exact ⟨_, ((⟨#[]⟩ : ByteArray)), ((⟨#[]⟩ : ByteArray)), ((-1)), H', ⟨by have := HJ14.out; have := HJ24.out; first | omega | exact Nat.le_refl _⟩, ⟨by (with_reducible repeat (first | refine blk_drewN ?_ _ | refine blk_drew ?_ | refine blk_alloc ?_ _)); exact BK161.out⟩, ⟨by (with_reducible repeat (first | refine blk_drewN ?_ _ | refine blk_drew ?_ | refine blk_alloc ?_ _)); exact BK168.out⟩, ⟨by repeat (first | (with_reducible first | exact HB.out | apply below_alloc | apply pw_below_drewN | apply below_drew1 | refine below_set ?_ GE161.out | refine below_set ?_ GE168.out) | exact HB.out)⟩⟩
   case rest =>
    clear HC7
    try clear c1
    try clear p1
    try clear q1
    try clear hx1
    try clear qi1
    try clear c2
    try clear p2
    try clear c3
    try clear c4
    try clear c4b0
    try clear c5
    try clear c5b0
    try clear p6
    try clear c13
    try clear c16
    try clear c16b0
    try clear c16b1
    try clear p16
    try clear q16
    try clear hx16
    try clear qi16
    try clear c17
    try clear c17b0
    try clear c17b1
    try clear p17
    try clear q17
    try clear hx17
    try clear qi17
    try clear c18
    try clear c19
    try clear c19b0
    try clear c19b1
    try clear c20
    try clear c20b0
    try clear c20b1
    try clear c26
    try clear c26b0
    try clear c26b1
    try clear c27
    try clear c27b0
    try clear c27b1
    try clear c28
    try clear c29
    try clear c29b0
    try clear c29b1
    try clear c33
    try clear c33b0
    try clear c33b1
    try clear c34
    try clear c34b0
    try clear c34b1
    try clear c35
    try clear c35b0
    try clear c35b1
    try clear c36
    try clear c36b0
    try clear c36b1
    try clear c37
    try clear c37b0
    try clear c37b1
    try clear hcz14_0
    try clear hcz14_1
    try clear hcz14_2
    try clear hcz14_3
    try clear hfz14_0
    try clear hfz14_1
    try clear hfz14_2
    try clear hfz14_3
    try clear hx165_0
    try clear hx169_0
    try clear hx170_0
    try clear hx171_0
    try clear hx172_0
    try clear hx173_0
    try clear hx174_0
    try clear hx175_0
    try clear hx176_0
    try clear p1
    try clear p16
    try clear p165
    try clear p169
    try clear p17
    try clear p170
    try clear p171
    try clear p172
    try clear p173
    try clear p174
    try clear p175
    try clear p176
    try clear p2
    try clear p6
    try clear q1
    try clear q16
    try clear q165
    try clear q169
    try clear q17
    try clear q170
    try clear q171
    try clear q172
    try clear q173
    try clear q174
    try clear q175
    try clear q176
    obtain ⟨kq, x169000_6, x169001_6, x169002_6, HA, HJ6, BK161, BK168, HB⟩ := hcut
    cases kq with
    | zero => exact absurd HA.out (by simp [endorse_read.j2])
    | succ kj6 =>
     have H := HA.out
     clear HA
     simp only [endorse_read.j2] at H
     replace H := Option.bind_eq_some_iff.mp H
     obtain ⟨t177, A420, H⟩ := H
     replace H : (if t177 = true then ((endorse_line.f x169000_6 x169001_6 x169002_6 t166).bind fun t178 => (some (x169000_6, x169001_6, x169002_6, t166, (t178.toList == a0.toList)))) else (some (x169000_6, x169001_6, x169002_6, t166, false))) = some (r1, r2, r3, r4, r5) := H
     have A42 := Aside0.mk A420
     clear A420
     by_cases c43 : t177 = true
     ·subst c43
      have H1 : ((endorse_line.f x169000_6 x169001_6 x169002_6 t166).bind fun t178 => (some (x169000_6, x169001_6, x169002_6, t166, (t178.toList == a0.toList)))) = some (r1, r2, r3, r4, r5) := by rw [if_pos rfl] at H; exact H
      clear H
      have H := H1
      clear H1
      replace H := Option.bind_eq_some_iff.mp H
      obtain ⟨t178, A440, H⟩ := H
      replace H : (some (x169000_6, x169001_6, x169002_6, t166, (t178.toList == a0.toList))) = some (r1, r2, r3, r4, r5) := H
      have A44 := Aside0.mk A440
      clear A440
      simp only [Option.some.injEq, Prod.mk.injEq] at H
      obtain ⟨rfl, rfl, rfl, rfl, rfl⟩ := H
      try go_wp2
      have n0_ := Aside0.mk (blk_drew BK161.out)
      have n1_ := Aside0.mk (blk_drew BK168.out)
      have n2_ := Aside0.mk (below_drew1 HB.out)
      clear BK161
      clear BK168
      clear HB
      have BK161 := n0_
      have BK168 := n1_
      have HB := n2_
      clear n0_ n1_ n2_
      refine start_ (n := 11) (S := fun w' => w'.cell? ⟨gb168, 0, none⟩ = some (.string x169000_6) ∧ w'.cell? ⟨gb168, 1, none⟩ = some (.string x169001_6) ∧ w'.cell? ⟨gb168, 2, none⟩ = some (.int .i64 x169002_6) ∧ w'.cell? ⟨gb168, 3, none⟩ = some (.int .i64 t166)) (ds := []) #[false, false, false, false, false, false, false, false, false, false, false] (by kernel_rfl) rfl rfl ⟨(blk_cell BK168.out 0).trans rfl, (blk_cell BK168.out 1).trans rfl, (blk_cell BK168.out 2).trans rfl, (blk_cell BK168.out 3).trans rfl⟩ (fun hHeld => ?_); refine with_tabW endorse_read.tab10 endorse_read.bits10 (fun HT_ HW_ => ?_)
      generalize wc.drew = w45 at BK161 BK168 HB hHeld ⊢
      refine take_ (i := 0) (N := some 75) (v := ?_) (a' := ?_) #[true, false, false, false, false, false, false, false, false, false, false] rfl rfl (take_ofW HT_.out HW_.out (by kernel_rfl)) (fun _ _ _ h => h) (Or.inl ⟨by rfl, ?_⟩) hHeld ?_ ?_
      rotate_left
      ·rintro w' ⟨s0, s1, s2, s3⟩
       go_simp
       with_reducible rfl
      rotate_left
      ·simp only [Act.put, setIfInBounds_toArray, set_cons_zero, set_cons_succ, i64_w]
       rfl
      refine take_ (i := 1) (N := some 76) (v := ?_) (a' := ?_) #[true, true, false, false, false, false, false, false, false, false, false] rfl rfl (take_ofW HT_.out HW_.out (by kernel_rfl)) (fun _ _ _ h => h) (Or.inl ⟨by rfl, ?_⟩) hHeld ?_ ?_
      rotate_left
      ·rintro w' ⟨s0, s1, s2, s3⟩
       go_simp
       with_reducible rfl
      rotate_left
      ·simp only [Act.put, setIfInBounds_toArray, set_cons_zero, set_cons_succ, i64_w]
       rfl
      refine one_ (i := 2) (N := some 77) #[true, true, true, false, false, false, false, false, false, false, false] rfl rfl (one_of HT_.out (by kernel_rfl)) (by decide) (fun K hK => ?_)
      refine goes_ Tryd.func13 (by kernel_rfl) rfl #[.agg #[.string x169000_6, .string x169001_6, .int .i64 x169002_6, .int .i64 t166]] (by rfl) rfl rfl (by (try simp only [List.map_toArray, List.map_cons, List.map_nil]); first | done | rfl | (simp only [List.length_drop, List.length_take]; rfl)) ?_
      with_reducible refine (endorse_right.calls kj6 x169000_6 x169001_6 x169002_6 t166 true _ A42.out).mono ?_
      rintro e w46 ⟨rfl, hb⟩
      refine ⟨_, rfl, ?_⟩
      have n0_ := Aside0.mk (blk_below (g := gb161) (o := .cells #[.string (⟨#[]⟩ : ByteArray), .string (⟨#[]⟩ : ByteArray), .int .i64 0, .int .i64 0] 34 (0, 0)) (by (with_reducible repeat (first | refine blk_drewN ?_ _ | refine blk_drew ?_ | refine blk_alloc ?_ _)); exact BK161.out) hb)
      have n1_ := Aside0.mk (blk_below (g := gb168) (o := .cells #[.string x169000_6, .string x169001_6, .int .i64 x169002_6, .int .i64 t166] 34 (0, 0)) (by (with_reducible repeat (first | refine blk_drewN ?_ _ | refine blk_drew ?_ | refine blk_alloc ?_ _)); exact BK168.out) hb)
      have n2_ := Aside0.mk (below_step (by repeat (first | (with_reducible first | exact HB.out | apply below_alloc | apply pw_below_drewN | apply below_drew1 | refine below_set ?_ GE161.out | refine below_set ?_ GE168.out) | exact HB.out)) hb)
      clear BK161
      clear BK168
      clear HB
      have BK161 := n0_
      have BK168 := n1_
      have HB := n2_
      clear n0_ n1_ n2_
      (try clear hb)
      (try clear hb2)
      (try clear hk)
      (try clear hi)
      refine hK.out _ _ ⟨(blk_cell BK168.out 0).trans rfl, (blk_cell BK168.out 1).trans rfl, (blk_cell BK168.out 2).trans rfl, (blk_cell BK168.out 3).trans rfl⟩ (fun hHeld => ?_)
      clear hK K
      refine norm_ (a' := ?_) ?_ ?_
      rotate_left
      ·show Act.put _ (some 77) _ = _
       simp only [Act.put, setIfInBounds_toArray, set_cons_zero, set_cons_succ, i64_w]
       rfl
      refine pure_ (i := 3) (N := some 78) (v := ?_) (a' := ?_) #[true, true, true, true, false, false, false, false, false, false, false] rfl rfl (any_of HT_.out (by kernel_rfl)) (fun _ _ _ h => h) (Or.inl ⟨by rfl, ?_⟩) ?_ ?_
      rotate_left
      ·intro w'
       go_simp
       with_reducible rfl
      rotate_left
      ·simp only [Act.put, setIfInBounds_toArray, set_cons_zero, set_cons_succ, i64_w]
       rfl
      refine pure_ (i := 6) (N := some 81) (v := ?_) (a' := ?_) #[true, true, true, true, false, false, true, false, false, false, false] rfl rfl (any_of HT_.out (by kernel_rfl)) (fun _ _ _ h => h) (Or.inl ⟨by rfl, ?_⟩) ?_ ?_
      rotate_left
      ·intro w'
       go_simp
       with_reducible rfl
      rotate_left
      ·simp only [Act.put, setIfInBounds_toArray, set_cons_zero, set_cons_succ, i64_w]
       rfl
      refine take_ (i := 4) (N := some 79) (v := ?_) (a' := ?_) #[true, true, true, true, true, false, true, false, false, false, false] rfl rfl (take_ofW HT_.out HW_.out (by kernel_rfl)) (fun _ _ _ h => h) (Or.inl ⟨by rfl, ?_⟩) hHeld ?_ ?_
      rotate_left
      ·rintro w' ⟨s0, s1, s2, s3⟩
       go_simp
       with_reducible rfl
      rotate_left
      ·simp only [Act.put, setIfInBounds_toArray, set_cons_zero, set_cons_succ, i64_w]
       rfl
      refine one_ (i := 5) (N := some 80) #[true, true, true, true, true, true, true, false, false, false, false] rfl rfl (one_of HT_.out (by kernel_rfl)) (by decide) (fun K hK => ?_)
      refine goes_ Tryd.func15 (by kernel_rfl) rfl #[.agg #[.string x169000_6, .string x169001_6, .int .i64 x169002_6, .int .i64 t166]] (by rfl) rfl rfl (by (try simp only [List.map_toArray, List.map_cons, List.map_nil]); first | done | rfl | (simp only [List.length_drop, List.length_take]; rfl)) ?_
      with_reducible refine (endorse_line.calls x169000_6 x169001_6 x169002_6 t166 t178 _ ?side1 A44.out).mono ?_
      (case side1 => repeat (first | exact HT.out | exact Tabs_below HT.out (by repeat (first | (with_reducible first | exact HB.out | apply below_alloc | apply pw_below_drewN | apply below_drew1 | refine below_set ?_ GE161.out | refine below_set ?_ GE168.out) | exact HB.out)) | (with_reducible refine Tabs_drewN ?_ _) | (with_reducible refine Tabs_drew ?_)))
      rintro e w47 ⟨rfl, hb⟩
      refine ⟨_, rfl, ?_⟩
      have n0_ := Aside0.mk (blk_below (g := gb161) (o := .cells #[.string (⟨#[]⟩ : ByteArray), .string (⟨#[]⟩ : ByteArray), .int .i64 0, .int .i64 0] 34 (0, 0)) (by (with_reducible repeat (first | refine blk_drewN ?_ _ | refine blk_drew ?_ | refine blk_alloc ?_ _)); exact BK161.out) hb)
      have n1_ := Aside0.mk (blk_below (g := gb168) (o := .cells #[.string x169000_6, .string x169001_6, .int .i64 x169002_6, .int .i64 t166] 34 (0, 0)) (by (with_reducible repeat (first | refine blk_drewN ?_ _ | refine blk_drew ?_ | refine blk_alloc ?_ _)); exact BK168.out) hb)
      have n2_ := Aside0.mk (below_step (by repeat (first | (with_reducible first | exact HB.out | apply below_alloc | apply pw_below_drewN | apply below_drew1 | refine below_set ?_ GE161.out | refine below_set ?_ GE168.out) | exact HB.out)) hb)
      clear BK161
      clear BK168
      clear HB
      have BK161 := n0_
      have BK168 := n1_
      have HB := n2_
      clear n0_ n1_ n2_
      (try clear hb)
      (try clear hb2)
      (try clear hk)
      (try clear hi)
      refine hK.out _ _ ⟨(blk_cell BK168.out 0).trans rfl, (blk_cell BK168.out 1).trans rfl, (blk_cell BK168.out 2).trans rfl, (blk_cell BK168.out 3).trans rfl⟩ (fun hHeld => ?_)
      clear hK K
      refine norm_ (a' := ?_) ?_ ?_
      rotate_left
      ·show Act.put _ (some 80) _ = _
       simp only [Act.put, setIfInBounds_toArray, set_cons_zero, set_cons_succ, i64_w]
       rfl
      refine pure_ (i := 7) (N := some 82) (v := ?_) (a' := ?_) #[true, true, true, true, true, true, true, true, false, false, false] rfl rfl (any_of HT_.out (by kernel_rfl)) (fun _ _ _ h => h) (Or.inl ⟨by rfl, ?_⟩) ?_ ?_
      rotate_left
      ·intro w'
       go_simp
       with_reducible rfl
      rotate_left
      ·simp only [Act.put, setIfInBounds_toArray, set_cons_zero, set_cons_succ, i64_w]
       rfl
      refine pure_ (i := 8) (N := some 83) (v := ?_) (a' := ?_) #[true, true, true, true, true, true, true, true, true, false, false] rfl rfl (any_of HT_.out (by kernel_rfl)) (fun _ _ _ h => h) (Or.inl ⟨by rfl, ?_⟩) ?_ ?_
      rotate_left
      ·intro w'
       go_simp
       with_reducible rfl
      rotate_left
      ·simp only [Act.put, setIfInBounds_toArray, set_cons_zero, set_cons_succ, i64_w]
       rfl
      refine one_ (i := 9) (N := none) #[true, true, true, true, true, true, true, true, true, true, false] rfl rfl (one_of HT_.out (by kernel_rfl)) (by decide) (fun K hK => ?_)
      have hs48 : w47.cell? ⟨gb161, 0, none⟩ = some (.string (⟨#[]⟩ : ByteArray)) := (blk_cell BK161.out 0).trans rfl
      have hfs48 := blk_frozen BK161.out 0
      have hns48_1 := NB168_161.out
      have hms48_1 := NB161_168.out
      have hs49 : w47.cell? ⟨gb161, 1, none⟩ = some (.string (⟨#[]⟩ : ByteArray)) := (blk_cell BK161.out 1).trans rfl
      have hfs49 := blk_frozen BK161.out 1
      have hns49_1 := NB168_161.out
      have hms49_1 := NB161_168.out
      have hs50 : w47.cell? ⟨gb161, 2, none⟩ = some (.int .i64 0) := (blk_cell BK161.out 2).trans rfl
      have hfs50 := blk_frozen BK161.out 2
      have hns50_1 := NB168_161.out
      have hms50_1 := NB161_168.out
      have hs51 : w47.cell? ⟨gb161, 3, none⟩ = some (.int .i64 0) := (blk_cell BK161.out 3).trans rfl
      have hfs51 := blk_frozen BK161.out 3
      have hns51_1 := NB168_161.out
      have hms51_1 := NB161_168.out
      refine skip_ (w1 := ?_) (by rfl) rfl ?_ ?_
      rotate_left
      ·go_simp
       rfl
      refine hK.out _ _ ⟨((cell_far (p := ⟨gb161, _, none⟩) NB168_161.out _).trans (((cell_far (p := ⟨gb161, _, none⟩) NB168_161.out _).trans (((cell_far (p := ⟨gb161, _, none⟩) NB168_161.out _).trans (((cell_far (p := ⟨gb161, _, none⟩) NB168_161.out _).trans (hHeld.1)))))))), ((cell_far (p := ⟨gb161, _, none⟩) NB168_161.out _).trans (((cell_far (p := ⟨gb161, _, none⟩) NB168_161.out _).trans (((cell_far (p := ⟨gb161, _, none⟩) NB168_161.out _).trans (((cell_far (p := ⟨gb161, _, none⟩) NB168_161.out _).trans (hHeld.2.1)))))))), ((cell_far (p := ⟨gb161, _, none⟩) NB168_161.out _).trans (((cell_far (p := ⟨gb161, _, none⟩) NB168_161.out _).trans (((cell_far (p := ⟨gb161, _, none⟩) NB168_161.out _).trans (((cell_far (p := ⟨gb161, _, none⟩) NB168_161.out _).trans (hHeld.2.2.1)))))))), ((cell_far (p := ⟨gb161, _, none⟩) NB168_161.out _).trans (((cell_far (p := ⟨gb161, _, none⟩) NB168_161.out _).trans (((cell_far (p := ⟨gb161, _, none⟩) NB168_161.out _).trans (((cell_far (p := ⟨gb161, _, none⟩) NB168_161.out _).trans (hHeld.2.2.2))))))))⟩ (fun hHeld => ?_)
      clear hK K
      refine pure_ (i := 10) (N := some 3) (v := ?_) (a' := ?_) #[true, true, true, true, true, true, true, true, true, true, true] rfl rfl (any_of HT_.out (by kernel_rfl)) (fun _ _ _ h => h) (Or.inl ⟨by rfl, ?_⟩) ?_ ?_
      rotate_left
      ·intro w'
       go_simp
       with_reducible rfl
      rotate_left
      ·simp only [Act.put, setIfInBounds_toArray, set_cons_zero, set_cons_succ, i64_w]
       rfl
      refine done_ (done_of HT_.out (by kernel_rfl)) ?_
      try go_wp2
      refine bodyPost_ret (results_ct rfl _ _ gb161 34 #[.string x169000_6, .string x169001_6, .int .i64 x169002_6, .int .i64 t166] (0, 0) _ rfl (by (with_reducible repeat (first | refine blk_drewN ?_ _ | refine blk_drew ?_ | refine blk_alloc ?_ _)); refine blk_put (cs := #[.string x169000_6, .string x169001_6, .int .i64 x169002_6, .int .i64 0]) ?_ 3 _ rfl; (with_reducible repeat (first | refine blk_drewN ?_ _ | refine blk_drew ?_ | refine blk_alloc ?_ _)); refine blk_put (cs := #[.string x169000_6, .string x169001_6, .int .i64 0, .int .i64 0]) ?_ 2 _ rfl; (with_reducible repeat (first | refine blk_drewN ?_ _ | refine blk_drew ?_ | refine blk_alloc ?_ _)); refine blk_put (cs := #[.string x169000_6, .string (⟨#[]⟩ : ByteArray), .int .i64 0, .int .i64 0]) ?_ 1 _ rfl; (with_reducible repeat (first | refine blk_drewN ?_ _ | refine blk_drew ?_ | refine blk_alloc ?_ _)); refine blk_put (cs := #[.string (⟨#[]⟩ : ByteArray), .string (⟨#[]⟩ : ByteArray), .int .i64 0, .int .i64 0]) ?_ 0 _ rfl; (with_reducible repeat (first | refine blk_drewN ?_ _ | refine blk_drew ?_ | refine blk_alloc ?_ _)); exact BK161.out) Tryd.underlying34 rfl (by kernel_rfl)) rfl ?_
      exact ⟨by first | rfl | (simp [errW_none, errW_some] <;> rfl) | (simp only [← hji3]; first | rfl | (simp [errW_none, errW_some] <;> rfl)) | (simp [*, errW_none, errW_some] <;> rfl), by repeat (first | (with_reducible first | exact HB.out | apply below_alloc | apply pw_below_drewN | apply below_drew1 | refine below_set ?_ GE161.out | refine below_set ?_ GE168.out) | exact HB.out)⟩
     ·replace c43 := Bool.eq_false_iff.mpr c43
      subst c43
      have H1 : (some (x169000_6, x169001_6, x169002_6, t166, false)) = some (r1, r2, r3, r4, r5) := by rw [if_neg (show ¬ (false = true) by decide)] at H; exact H
      clear H
      have H := H1
      clear H1
      simp only [Option.some.injEq, Prod.mk.injEq] at H
      obtain ⟨rfl, rfl, rfl, rfl, rfl⟩ := H
      try go_wp2
      have n0_ := Aside0.mk (blk_drew BK161.out)
      have n1_ := Aside0.mk (blk_drew BK168.out)
      have n2_ := Aside0.mk (below_drew1 HB.out)
      clear BK161
      clear BK168
      clear HB
      have BK161 := n0_
      have BK168 := n1_
      have HB := n2_
      clear n0_ n1_ n2_
      refine start_ (n := 11) (S := fun w' => w'.cell? ⟨gb168, 0, none⟩ = some (.string x169000_6) ∧ w'.cell? ⟨gb168, 1, none⟩ = some (.string x169001_6) ∧ w'.cell? ⟨gb168, 2, none⟩ = some (.int .i64 x169002_6) ∧ w'.cell? ⟨gb168, 3, none⟩ = some (.int .i64 t166)) (ds := []) #[false, false, false, false, false, false, false, false, false, false, false] (by kernel_rfl) rfl rfl ⟨(blk_cell BK168.out 0).trans rfl, (blk_cell BK168.out 1).trans rfl, (blk_cell BK168.out 2).trans rfl, (blk_cell BK168.out 3).trans rfl⟩ (fun hHeld => ?_); refine with_tabW endorse_read.tab10 endorse_read.bits10 (fun HT_ HW_ => ?_)
      generalize wc.drew = w52 at BK161 BK168 HB hHeld ⊢
      refine take_ (i := 0) (N := some 75) (v := ?_) (a' := ?_) #[true, false, false, false, false, false, false, false, false, false, false] rfl rfl (take_ofW HT_.out HW_.out (by kernel_rfl)) (fun _ _ _ h => h) (Or.inl ⟨by rfl, ?_⟩) hHeld ?_ ?_
      rotate_left
      ·rintro w' ⟨s0, s1, s2, s3⟩
       go_simp
       with_reducible rfl
      rotate_left
      ·simp only [Act.put, setIfInBounds_toArray, set_cons_zero, set_cons_succ, i64_w]
       rfl
      refine take_ (i := 1) (N := some 76) (v := ?_) (a' := ?_) #[true, true, false, false, false, false, false, false, false, false, false] rfl rfl (take_ofW HT_.out HW_.out (by kernel_rfl)) (fun _ _ _ h => h) (Or.inl ⟨by rfl, ?_⟩) hHeld ?_ ?_
      rotate_left
      ·rintro w' ⟨s0, s1, s2, s3⟩
       go_simp
       with_reducible rfl
      rotate_left
      ·simp only [Act.put, setIfInBounds_toArray, set_cons_zero, set_cons_succ, i64_w]
       rfl
      refine one_ (i := 2) (N := some 77) #[true, true, true, false, false, false, false, false, false, false, false] rfl rfl (one_of HT_.out (by kernel_rfl)) (by decide) (fun K hK => ?_)
      refine goes_ Tryd.func13 (by kernel_rfl) rfl #[.agg #[.string x169000_6, .string x169001_6, .int .i64 x169002_6, .int .i64 t166]] (by rfl) rfl rfl (by (try simp only [List.map_toArray, List.map_cons, List.map_nil]); first | done | rfl | (simp only [List.length_drop, List.length_take]; rfl)) ?_
      with_reducible refine (endorse_right.calls kj6 x169000_6 x169001_6 x169002_6 t166 false _ A42.out).mono ?_
      rintro e w53 ⟨rfl, hb⟩
      refine ⟨_, rfl, ?_⟩
      have n0_ := Aside0.mk (blk_below (g := gb161) (o := .cells #[.string (⟨#[]⟩ : ByteArray), .string (⟨#[]⟩ : ByteArray), .int .i64 0, .int .i64 0] 34 (0, 0)) (by (with_reducible repeat (first | refine blk_drewN ?_ _ | refine blk_drew ?_ | refine blk_alloc ?_ _)); exact BK161.out) hb)
      have n1_ := Aside0.mk (blk_below (g := gb168) (o := .cells #[.string x169000_6, .string x169001_6, .int .i64 x169002_6, .int .i64 t166] 34 (0, 0)) (by (with_reducible repeat (first | refine blk_drewN ?_ _ | refine blk_drew ?_ | refine blk_alloc ?_ _)); exact BK168.out) hb)
      have n2_ := Aside0.mk (below_step (by repeat (first | (with_reducible first | exact HB.out | apply below_alloc | apply pw_below_drewN | apply below_drew1 | refine below_set ?_ GE161.out | refine below_set ?_ GE168.out) | exact HB.out)) hb)
      clear BK161
      clear BK168
      clear HB
      have BK161 := n0_
      have BK168 := n1_
      have HB := n2_
      clear n0_ n1_ n2_
      (try clear hb)
      (try clear hb2)
      (try clear hk)
      (try clear hi)
      refine hK.out _ _ ⟨(blk_cell BK168.out 0).trans rfl, (blk_cell BK168.out 1).trans rfl, (blk_cell BK168.out 2).trans rfl, (blk_cell BK168.out 3).trans rfl⟩ (fun hHeld => ?_)
      clear hK K
      refine norm_ (a' := ?_) ?_ ?_
      rotate_left
      ·show Act.put _ (some 77) _ = _
       simp only [Act.put, setIfInBounds_toArray, set_cons_zero, set_cons_succ, i64_w]
       rfl
      refine pure_ (i := 3) (N := some 78) (v := ?_) (a' := ?_) #[true, true, true, true, false, false, false, false, false, false, false] rfl rfl (any_of HT_.out (by kernel_rfl)) (fun _ _ _ h => h) (Or.inl ⟨by rfl, ?_⟩) ?_ ?_
      rotate_left
      ·intro w'
       go_simp
       with_reducible rfl
      rotate_left
      ·simp only [Act.put, setIfInBounds_toArray, set_cons_zero, set_cons_succ, i64_w]
       rfl
      refine pure_ (i := 4) (N := some 79) (v := undef) (a' := ?_) #[true, true, true, true, true, false, false, false, false, false, false] rfl rfl (any_of HT_.out (by kernel_rfl)) (fun _ _ _ h => h) (Or.inr ⟨by rfl, rfl⟩) ?_ ?_
      rotate_left
      ·simp only [Act.put, setIfInBounds_toArray, set_cons_zero, set_cons_succ, i64_w]
       rfl
      refine pure_ (i := 5) (N := some 80) (v := undef) (a' := ?_) #[true, true, true, true, true, true, false, false, false, false, false] rfl rfl (any_of HT_.out (by kernel_rfl)) (fun _ _ _ h => h) (Or.inr ⟨by rfl, rfl⟩) ?_ ?_
      rotate_left
      ·simp only [Act.put, setIfInBounds_toArray, set_cons_zero, set_cons_succ, i64_w]
       rfl
      refine pure_ (i := 6) (N := some 81) (v := undef) (a' := ?_) #[true, true, true, true, true, true, true, false, false, false, false] rfl rfl (any_of HT_.out (by kernel_rfl)) (fun _ _ _ h => h) (Or.inr ⟨by rfl, rfl⟩) ?_ ?_
      rotate_left
      ·simp only [Act.put, setIfInBounds_toArray, set_cons_zero, set_cons_succ, i64_w]
       rfl
      refine pure_ (i := 7) (N := some 82) (v := undef) (a' := ?_) #[true, true, true, true, true, true, true, true, false, false, false] rfl rfl (any_of HT_.out (by kernel_rfl)) (fun _ _ _ h => h) (Or.inr ⟨by rfl, rfl⟩) ?_ ?_
      rotate_left
      ·simp only [Act.put, setIfInBounds_toArray, set_cons_zero, set_cons_succ, i64_w]
       rfl
      refine pure_ (i := 8) (N := some 83) (v := ?_) (a' := ?_) #[true, true, true, true, true, true, true, true, true, false, false] rfl rfl (any_of HT_.out (by kernel_rfl)) (fun _ _ _ h => h) (Or.inl ⟨by rfl, ?_⟩) ?_ ?_
      rotate_left
      ·intro w'
       go_simp
       with_reducible rfl
      rotate_left
      ·simp only [Act.put, setIfInBounds_toArray, set_cons_zero, set_cons_succ, i64_w]
       rfl
      refine one_ (i := 9) (N := none) #[true, true, true, true, true, true, true, true, true, true, false] rfl rfl (one_of HT_.out (by kernel_rfl)) (by decide) (fun K hK => ?_)
      have hs54 : w53.cell? ⟨gb161, 0, none⟩ = some (.string (⟨#[]⟩ : ByteArray)) := (blk_cell BK161.out 0).trans rfl
      have hfs54 := blk_frozen BK161.out 0
      have hns54_1 := NB168_161.out
      have hms54_1 := NB161_168.out
      have hs55 : w53.cell? ⟨gb161, 1, none⟩ = some (.string (⟨#[]⟩ : ByteArray)) := (blk_cell BK161.out 1).trans rfl
      have hfs55 := blk_frozen BK161.out 1
      have hns55_1 := NB168_161.out
      have hms55_1 := NB161_168.out
      have hs56 : w53.cell? ⟨gb161, 2, none⟩ = some (.int .i64 0) := (blk_cell BK161.out 2).trans rfl
      have hfs56 := blk_frozen BK161.out 2
      have hns56_1 := NB168_161.out
      have hms56_1 := NB161_168.out
      have hs57 : w53.cell? ⟨gb161, 3, none⟩ = some (.int .i64 0) := (blk_cell BK161.out 3).trans rfl
      have hfs57 := blk_frozen BK161.out 3
      have hns57_1 := NB168_161.out
      have hms57_1 := NB161_168.out
      refine skip_ (w1 := ?_) (by rfl) rfl ?_ ?_
      rotate_left
      ·go_simp
       rfl
      refine hK.out _ _ ⟨((cell_far (p := ⟨gb161, _, none⟩) NB168_161.out _).trans (((cell_far (p := ⟨gb161, _, none⟩) NB168_161.out _).trans (((cell_far (p := ⟨gb161, _, none⟩) NB168_161.out _).trans (((cell_far (p := ⟨gb161, _, none⟩) NB168_161.out _).trans (hHeld.1)))))))), ((cell_far (p := ⟨gb161, _, none⟩) NB168_161.out _).trans (((cell_far (p := ⟨gb161, _, none⟩) NB168_161.out _).trans (((cell_far (p := ⟨gb161, _, none⟩) NB168_161.out _).trans (((cell_far (p := ⟨gb161, _, none⟩) NB168_161.out _).trans (hHeld.2.1)))))))), ((cell_far (p := ⟨gb161, _, none⟩) NB168_161.out _).trans (((cell_far (p := ⟨gb161, _, none⟩) NB168_161.out _).trans (((cell_far (p := ⟨gb161, _, none⟩) NB168_161.out _).trans (((cell_far (p := ⟨gb161, _, none⟩) NB168_161.out _).trans (hHeld.2.2.1)))))))), ((cell_far (p := ⟨gb161, _, none⟩) NB168_161.out _).trans (((cell_far (p := ⟨gb161, _, none⟩) NB168_161.out _).trans (((cell_far (p := ⟨gb161, _, none⟩) NB168_161.out _).trans (((cell_far (p := ⟨gb161, _, none⟩) NB168_161.out _).trans (hHeld.2.2.2))))))))⟩ (fun hHeld => ?_)
      clear hK K
      refine pure_ (i := 10) (N := some 3) (v := ?_) (a' := ?_) #[true, true, true, true, true, true, true, true, true, true, true] rfl rfl (any_of HT_.out (by kernel_rfl)) (fun _ _ _ h => h) (Or.inl ⟨by rfl, ?_⟩) ?_ ?_
      rotate_left
      ·intro w'
       go_simp
       with_reducible rfl
      rotate_left
      ·simp only [Act.put, setIfInBounds_toArray, set_cons_zero, set_cons_succ, i64_w]
       rfl
      refine done_ (done_of HT_.out (by kernel_rfl)) ?_
      try go_wp2
      refine bodyPost_ret (results_ct rfl _ _ gb161 34 #[.string x169000_6, .string x169001_6, .int .i64 x169002_6, .int .i64 t166] (0, 0) _ rfl (by (with_reducible repeat (first | refine blk_drewN ?_ _ | refine blk_drew ?_ | refine blk_alloc ?_ _)); refine blk_put (cs := #[.string x169000_6, .string x169001_6, .int .i64 x169002_6, .int .i64 0]) ?_ 3 _ rfl; (with_reducible repeat (first | refine blk_drewN ?_ _ | refine blk_drew ?_ | refine blk_alloc ?_ _)); refine blk_put (cs := #[.string x169000_6, .string x169001_6, .int .i64 0, .int .i64 0]) ?_ 2 _ rfl; (with_reducible repeat (first | refine blk_drewN ?_ _ | refine blk_drew ?_ | refine blk_alloc ?_ _)); refine blk_put (cs := #[.string x169000_6, .string (⟨#[]⟩ : ByteArray), .int .i64 0, .int .i64 0]) ?_ 1 _ rfl; (with_reducible repeat (first | refine blk_drewN ?_ _ | refine blk_drew ?_ | refine blk_alloc ?_ _)); refine blk_put (cs := #[.string (⟨#[]⟩ : ByteArray), .string (⟨#[]⟩ : ByteArray), .int .i64 0, .int .i64 0]) ?_ 0 _ rfl; (with_reducible repeat (first | refine blk_drewN ?_ _ | refine blk_drew ?_ | refine blk_alloc ?_ _)); exact BK161.out) Tryd.underlying34 rfl (by kernel_rfl)) rfl ?_
      exact ⟨by first | rfl | (simp [errW_none, errW_some] <;> rfl) | (simp only [← hji3]; first | rfl | (simp [errW_none, errW_some] <;> rfl)) | (simp [*, errW_none, errW_some] <;> rfl), by repeat (first | (with_reducible first | exact HB.out | apply below_alloc | apply pw_below_drewN | apply below_drew1 | refine below_set ?_ GE161.out | refine below_set ?_ GE168.out) | exact HB.out)⟩
  ·rw [if_neg c5] at H
   exact absurd H (by simp)
 ·rw [if_neg c4] at H
  exact absurd H (by simp)

end Go.Proofs.YtjmbglgchmhahaaDoor.P
