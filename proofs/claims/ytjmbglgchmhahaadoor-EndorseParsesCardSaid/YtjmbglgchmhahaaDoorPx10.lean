-- Written by the session's own program xprint.py, which runs the kit's print over functions given by hand.
import Derived.Test.YtjmbglgchmhahaaDoorPx0
import Derived.Test.YtjmbglgchmhahaaDoorPx9
namespace Go.Proofs.YtjmbglgchmhahaaDoor.P
open Go.RowKit Go.Proofs.YtjmbglgchmhahaaDoorW.PrintWords Go.Proofs.YtjmbglgchmhahaaDoorW.PrintLast Go.Proofs.YtjmbglgchmhahaaDoorW.PrintMore
attribute [local go_sem] max2_int min2_int max_two min_two max_three min_three max_four min_four   -- for this text's walks alone
open List (setIfInBounds_toArray set_cons_zero set_cons_succ)
set_option linter.unusedVariables false
set_option linter.unusedSimpArgs false

/-! ### supercargoref22_Line: function 18 -/
def supercargoref22_Line.f (k : Nat) (a0_0 : ByteArray) (a0_1 : ByteArray) (a0_2 : Int) (a0_3 : Int) : Option (ByteArray) := if a0_2 = 1 then (if 6 + a0_0.size ≤ 9223372036854775807 then (if ((⟨#[98, 108, 97, 110, 107, 32]⟩ : ByteArray) ++ a0_0).size + 1 ≤ 9223372036854775807 then ((supercargoref22_Digits.f k a0_3).bind fun t154 => (if (((⟨#[98, 108, 97, 110, 107, 32]⟩ : ByteArray) ++ a0_0) ++ (⟨#[32]⟩ : ByteArray)).size + t154.size ≤ 9223372036854775807 then (if ((((⟨#[98, 108, 97, 110, 107, 32]⟩ : ByteArray) ++ a0_0) ++ (⟨#[32]⟩ : ByteArray)) ++ t154).size + 1 ≤ 9223372036854775807 then (some (((((⟨#[98, 108, 97, 110, 107, 32]⟩ : ByteArray) ++ a0_0) ++ (⟨#[32]⟩ : ByteArray)) ++ t154) ++ (⟨#[10]⟩ : ByteArray))) else (none)) else (none))) else (none)) else (none)) else (if a0_2 = 2 then (if 5 + a0_0.size ≤ 9223372036854775807 then (if ((⟨#[111, 110, 108, 121, 32]⟩ : ByteArray) ++ a0_0).size + 1 ≤ 9223372036854775807 then (if (((⟨#[111, 110, 108, 121, 32]⟩ : ByteArray) ++ a0_0) ++ (⟨#[32]⟩ : ByteArray)).size + a0_1.size ≤ 9223372036854775807 then (if ((((⟨#[111, 110, 108, 121, 32]⟩ : ByteArray) ++ a0_0) ++ (⟨#[32]⟩ : ByteArray)) ++ a0_1).size + 1 ≤ 9223372036854775807 then ((supercargoref22_Digits.f k a0_3).bind fun t155 => (if (((((⟨#[111, 110, 108, 121, 32]⟩ : ByteArray) ++ a0_0) ++ (⟨#[32]⟩ : ByteArray)) ++ a0_1) ++ (⟨#[32]⟩ : ByteArray)).size + t155.size ≤ 9223372036854775807 then (if ((((((⟨#[111, 110, 108, 121, 32]⟩ : ByteArray) ++ a0_0) ++ (⟨#[32]⟩ : ByteArray)) ++ a0_1) ++ (⟨#[32]⟩ : ByteArray)) ++ t155).size + 1 ≤ 9223372036854775807 then (some (((((((⟨#[111, 110, 108, 121, 32]⟩ : ByteArray) ++ a0_0) ++ (⟨#[32]⟩ : ByteArray)) ++ a0_1) ++ (⟨#[32]⟩ : ByteArray)) ++ t155) ++ (⟨#[10]⟩ : ByteArray))) else (none)) else (none))) else (none)) else (none)) else (none)) else (none)) else (if 6 + a0_0.size ≤ 9223372036854775807 then (if ((⟨#[111, 114, 100, 101, 114, 32]⟩ : ByteArray) ++ a0_0).size + 1 ≤ 9223372036854775807 then (if (((⟨#[111, 114, 100, 101, 114, 32]⟩ : ByteArray) ++ a0_0) ++ (⟨#[32]⟩ : ByteArray)).size + a0_1.size ≤ 9223372036854775807 then (if ((((⟨#[111, 114, 100, 101, 114, 32]⟩ : ByteArray) ++ a0_0) ++ (⟨#[32]⟩ : ByteArray)) ++ a0_1).size + 1 ≤ 9223372036854775807 then ((supercargoref22_Digits.f k a0_3).bind fun t156 => (if (((((⟨#[111, 114, 100, 101, 114, 32]⟩ : ByteArray) ++ a0_0) ++ (⟨#[32]⟩ : ByteArray)) ++ a0_1) ++ (⟨#[32]⟩ : ByteArray)).size + t156.size ≤ 9223372036854775807 then (if ((((((⟨#[111, 114, 100, 101, 114, 32]⟩ : ByteArray) ++ a0_0) ++ (⟨#[32]⟩ : ByteArray)) ++ a0_1) ++ (⟨#[32]⟩ : ByteArray)) ++ t156).size + 1 ≤ 9223372036854775807 then (some (((((((⟨#[111, 114, 100, 101, 114, 32]⟩ : ByteArray) ++ a0_0) ++ (⟨#[32]⟩ : ByteArray)) ++ a0_1) ++ (⟨#[32]⟩ : ByteArray)) ++ t156) ++ (⟨#[10]⟩ : ByteArray))) else (none)) else (none))) else (none)) else (none)) else (none)) else (none)))
theorem supercargoref22_Line.mono : ∀ a0 a1 a2 a3 k, LeO (supercargoref22_Line.f k a0 a1 a2 a3) (supercargoref22_Line.f (k + 1) a0 a1 a2 a3) := by
 intro a0 a1 a2 a3 k
 unfold supercargoref22_Line.f
 repeat' first
   | (with_reducible exact supercargoref22_Digits.mono _ _)
   | (with_reducible exact LeO.refl _)
   | (with_reducible exact LeO.none _)
   | (with_reducible refine LeO.ite ?_ ?_)
   | (with_reducible refine LeO.bind ?_ (fun _ => ?_))
   | exact supercargoref22_Digits.mono _ _
   | exact LeO.none _
   | refine LeO.ite ?_ ?_
   | refine LeO.bind ?_ (fun _ => ?_)
def supercargoref22_Line.T2 : Bool × List (List Nat × List Nat) := (true, [([], []), ([0], [0]), ([1], [1]), ([2], [2]), ([], []), ([4], [4]), ([5], [5]), ([3, 6], [3, 6]), ([7], [7]), ([8, 6, 0, 1, 2, 3, 4, 5, 6, 7, 8], [8])])
def supercargoref22_Line.B2 : List Nat := [0, 1, 3, 7, 0, 16, 48, 127, 255, 511]
theorem supercargoref22_Line.tab2 : rtab .any (opsOf Tryd.f18 2) = supercargoref22_Line.T2 := by kernel_rfl
theorem supercargoref22_Line.bits2 : waitsOk supercargoref22_Line.T2.2 supercargoref22_Line.B2 = true := by kernel_rfl
def supercargoref22_Line.T6 : Bool × List (List Nat × List Nat) := (true, [([], []), ([], []), ([1], [1]), ([0, 2], [0, 2]), ([3], [3]), ([], []), ([5], [5]), ([4, 6], [4, 6]), ([7], [7]), ([], []), ([9], [9]), ([10], [10]), ([8, 11], [8, 11]), ([12], [12]), ([13, 11, 0, 1, 2, 3, 4, 5, 6, 7, 8, 9, 10, 11, 12, 13], [13])])
def supercargoref22_Line.B6 : List Nat := [0, 0, 2, 7, 15, 0, 32, 127, 255, 0, 512, 1536, 4095, 8191, 16383]
theorem supercargoref22_Line.tab6 : rtab .any (opsOf Tryd.f18 6) = supercargoref22_Line.T6 := by kernel_rfl
theorem supercargoref22_Line.bits6 : waitsOk supercargoref22_Line.T6.2 supercargoref22_Line.B6 = true := by kernel_rfl
set_option maxHeartbeats 8000000 in
set_option maxRecDepth 100000 in
theorem supercargoref22_Line.calls (k : Nat) (a0_0 : ByteArray) (a0_1 : ByteArray) (a0_2 : Int) (a0_3 : Int) (r : ByteArray) (w : World) (h : supercargoref22_Line.f k a0_0 a0_1 a0_2 a0_3 = some r) :
  Calls Tryd.prog 18 #[.agg #[.string a0_0, .string a0_1, .int .i64 a0_2, .int .i64 a0_3]] w fun e w' => e = .returned (.string r) ∧ Below w.heap.size w w' := by
 have hu34 := Tryd.underlying34
 have HB := Aside0.mk (Below.refl w.heap.size w)
 have H : (if a0_2 = 1 then (if 6 + a0_0.size ≤ 9223372036854775807 then (if ((⟨#[98, 108, 97, 110, 107, 32]⟩ : ByteArray) ++ a0_0).size + 1 ≤ 9223372036854775807 then ((supercargoref22_Digits.f k a0_3).bind fun t154 => (if (((⟨#[98, 108, 97, 110, 107, 32]⟩ : ByteArray) ++ a0_0) ++ (⟨#[32]⟩ : ByteArray)).size + t154.size ≤ 9223372036854775807 then (if ((((⟨#[98, 108, 97, 110, 107, 32]⟩ : ByteArray) ++ a0_0) ++ (⟨#[32]⟩ : ByteArray)) ++ t154).size + 1 ≤ 9223372036854775807 then (some (((((⟨#[98, 108, 97, 110, 107, 32]⟩ : ByteArray) ++ a0_0) ++ (⟨#[32]⟩ : ByteArray)) ++ t154) ++ (⟨#[10]⟩ : ByteArray))) else (none)) else (none))) else (none)) else (none)) else (if a0_2 = 2 then (if 5 + a0_0.size ≤ 9223372036854775807 then (if ((⟨#[111, 110, 108, 121, 32]⟩ : ByteArray) ++ a0_0).size + 1 ≤ 9223372036854775807 then (if (((⟨#[111, 110, 108, 121, 32]⟩ : ByteArray) ++ a0_0) ++ (⟨#[32]⟩ : ByteArray)).size + a0_1.size ≤ 9223372036854775807 then (if ((((⟨#[111, 110, 108, 121, 32]⟩ : ByteArray) ++ a0_0) ++ (⟨#[32]⟩ : ByteArray)) ++ a0_1).size + 1 ≤ 9223372036854775807 then ((supercargoref22_Digits.f k a0_3).bind fun t155 => (if (((((⟨#[111, 110, 108, 121, 32]⟩ : ByteArray) ++ a0_0) ++ (⟨#[32]⟩ : ByteArray)) ++ a0_1) ++ (⟨#[32]⟩ : ByteArray)).size + t155.size ≤ 9223372036854775807 then (if ((((((⟨#[111, 110, 108, 121, 32]⟩ : ByteArray) ++ a0_0) ++ (⟨#[32]⟩ : ByteArray)) ++ a0_1) ++ (⟨#[32]⟩ : ByteArray)) ++ t155).size + 1 ≤ 9223372036854775807 then (some (((((((⟨#[111, 110, 108, 121, 32]⟩ : ByteArray) ++ a0_0) ++ (⟨#[32]⟩ : ByteArray)) ++ a0_1) ++ (⟨#[32]⟩ : ByteArray)) ++ t155) ++ (⟨#[10]⟩ : ByteArray))) else (none)) else (none))) else (none)) else (none)) else (none)) else (none)) else (if 6 + a0_0.size ≤ 9223372036854775807 then (if ((⟨#[111, 114, 100, 101, 114, 32]⟩ : ByteArray) ++ a0_0).size + 1 ≤ 9223372036854775807 then (if (((⟨#[111, 114, 100, 101, 114, 32]⟩ : ByteArray) ++ a0_0) ++ (⟨#[32]⟩ : ByteArray)).size + a0_1.size ≤ 9223372036854775807 then (if ((((⟨#[111, 114, 100, 101, 114, 32]⟩ : ByteArray) ++ a0_0) ++ (⟨#[32]⟩ : ByteArray)) ++ a0_1).size + 1 ≤ 9223372036854775807 then ((supercargoref22_Digits.f k a0_3).bind fun t156 => (if (((((⟨#[111, 114, 100, 101, 114, 32]⟩ : ByteArray) ++ a0_0) ++ (⟨#[32]⟩ : ByteArray)) ++ a0_1) ++ (⟨#[32]⟩ : ByteArray)).size + t156.size ≤ 9223372036854775807 then (if ((((((⟨#[111, 114, 100, 101, 114, 32]⟩ : ByteArray) ++ a0_0) ++ (⟨#[32]⟩ : ByteArray)) ++ a0_1) ++ (⟨#[32]⟩ : ByteArray)) ++ t156).size + 1 ≤ 9223372036854775807 then (some (((((((⟨#[111, 114, 100, 101, 114, 32]⟩ : ByteArray) ++ a0_0) ++ (⟨#[32]⟩ : ByteArray)) ++ a0_1) ++ (⟨#[32]⟩ : ByteArray)) ++ t156) ++ (⟨#[10]⟩ : ByteArray))) else (none)) else (none))) else (none)) else (none)) else (none)) else (none)))) = some r := h
 clear h
 by_cases c2 : a0_2 = 1
 ·rw [if_pos c2] at H
  have c2b0 : (a0_2 == 1) = true := beq_iff_eq.mpr c2
  have c2b1 : (a0_2 != 1) = false := bne_eq_false_iff_eq.mpr c2
  clear c2
  by_cases c3 : 6 + a0_0.size ≤ 9223372036854775807
  ·rw [if_pos c3] at H
   have c3b0 := eq_true c3
   have c3b1 : decide (6 + a0_0.size ≤ 9223372036854775807) = true := decide_eq_true c3
   try have c3b2 : (9223372036854775807 < 6 + a0_0.size) = False := eq_false (Nat.not_lt.2 c3)
   by_cases c4 : ((⟨#[98, 108, 97, 110, 107, 32]⟩ : ByteArray) ++ a0_0).size + 1 ≤ 9223372036854775807
   ·rw [if_pos c4] at H
    have c4b0 := eq_true c4
    have c4b1 : decide (((⟨#[98, 108, 97, 110, 107, 32]⟩ : ByteArray) ++ a0_0).size + 1 ≤ 9223372036854775807) = true := decide_eq_true c4
    try have c4b2 : (9223372036854775807 < ((⟨#[98, 108, 97, 110, 107, 32]⟩ : ByteArray) ++ a0_0).size + 1) = False := eq_false (Nat.not_lt.2 c4)
    try (have c4b3 := c4; simp [ByteArray.size_append, PrintScope.size_mk] at c4b3)
    try (have c4b4 := eq_false (Nat.not_lt.2 c4b3))
    try (have c4b9 := eq_false (Nat.not_lt.2 (by have h_ := c4; simp only [ByteArray.size_append, PrintScope.size_mk, List.size_toArray, List.length_cons, List.length_nil, Nat.zero_add, Nat.reduceAdd] at h_; exact h_)))
    replace H := Option.bind_eq_some_iff.mp H
    obtain ⟨t154, A50, H⟩ := H
    replace H : (if (((⟨#[98, 108, 97, 110, 107, 32]⟩ : ByteArray) ++ a0_0) ++ (⟨#[32]⟩ : ByteArray)).size + t154.size ≤ 9223372036854775807 then (if ((((⟨#[98, 108, 97, 110, 107, 32]⟩ : ByteArray) ++ a0_0) ++ (⟨#[32]⟩ : ByteArray)) ++ t154).size + 1 ≤ 9223372036854775807 then (some (((((⟨#[98, 108, 97, 110, 107, 32]⟩ : ByteArray) ++ a0_0) ++ (⟨#[32]⟩ : ByteArray)) ++ t154) ++ (⟨#[10]⟩ : ByteArray))) else (none)) else (none)) = some r := H
    have A5 := Aside0.mk A50
    clear A50
    by_cases c6 : (((⟨#[98, 108, 97, 110, 107, 32]⟩ : ByteArray) ++ a0_0) ++ (⟨#[32]⟩ : ByteArray)).size + t154.size ≤ 9223372036854775807
    ·rw [if_pos c6] at H
     have c6b0 := eq_true c6
     have c6b1 : decide ((((⟨#[98, 108, 97, 110, 107, 32]⟩ : ByteArray) ++ a0_0) ++ (⟨#[32]⟩ : ByteArray)).size + t154.size ≤ 9223372036854775807) = true := decide_eq_true c6
     try have c6b2 : (9223372036854775807 < (((⟨#[98, 108, 97, 110, 107, 32]⟩ : ByteArray) ++ a0_0) ++ (⟨#[32]⟩ : ByteArray)).size + t154.size) = False := eq_false (Nat.not_lt.2 c6)
     try (have c6b3 := c6; simp [ByteArray.size_append, PrintScope.size_mk] at c6b3)
     try (have c6b4 := eq_false (Nat.not_lt.2 c6b3))
     try (have c6b9 := eq_false (Nat.not_lt.2 (by have h_ := c6; simp only [ByteArray.size_append, PrintScope.size_mk, List.size_toArray, List.length_cons, List.length_nil, Nat.zero_add, Nat.reduceAdd] at h_; exact h_)))
     by_cases c7 : ((((⟨#[98, 108, 97, 110, 107, 32]⟩ : ByteArray) ++ a0_0) ++ (⟨#[32]⟩ : ByteArray)) ++ t154).size + 1 ≤ 9223372036854775807
     ·rw [if_pos c7] at H
      have c7b0 := eq_true c7
      have c7b1 : decide (((((⟨#[98, 108, 97, 110, 107, 32]⟩ : ByteArray) ++ a0_0) ++ (⟨#[32]⟩ : ByteArray)) ++ t154).size + 1 ≤ 9223372036854775807) = true := decide_eq_true c7
      try have c7b2 : (9223372036854775807 < ((((⟨#[98, 108, 97, 110, 107, 32]⟩ : ByteArray) ++ a0_0) ++ (⟨#[32]⟩ : ByteArray)) ++ t154).size + 1) = False := eq_false (Nat.not_lt.2 c7)
      try (have c7b3 := c7; simp [ByteArray.size_append, PrintScope.size_mk] at c7b3)
      try (have c7b4 := eq_false (Nat.not_lt.2 c7b3))
      try (have c7b9 := eq_false (Nat.not_lt.2 (by have h_ := c7; simp only [ByteArray.size_append, PrintScope.size_mk, List.size_toArray, List.length_cons, List.length_nil, Nat.zero_add, Nat.reduceAdd] at h_; exact h_)))
      obtain rfl := Option.some.inj H
      go_enter Tryd.func18, Tryd.ntmps18
      try go_wp2_with (first | ((with_reducible refine gate_dst (N := 1) rfl ?_); refine box_event ?hg (N := 1) ?hd (cs := #[.string a0_0, .string a0_1, .int .i64 a0_2, .int .i64 a0_3]) (t := 34) ?hr ?_; (case hd => rfl); (case hg => rfl); (case hr => first | (go_simp; done) | (go_simp; rfl)); intro gb153 hg w8 hbox hb; have n0_ := Aside0.mk (below_step (by repeat (first | (with_reducible first | exact HB.out | apply below_alloc | apply pw_below_drewN | apply below_drew1) | exact HB.out)) hb); have n1_ := Aside0.mk (hbox); have n2_ := Aside0.mk ((by rw [hg]; exact (below_size (by repeat (first | (with_reducible first | exact HB.out | apply below_alloc | apply pw_below_drewN | apply below_drew1) | exact HB.out))) : w.heap.size ≤ gb153)); have n3_ := Aside0.mk ((by rw [hg]; exact (below_size (by repeat (first | (with_reducible first | exact HB.out | apply below_alloc | apply pw_below_drewN | apply below_drew1) | exact HB.out))) : w.heap.size ≤ gb153)); clear HB; have HB := n0_; have BK153 := n1_; have GW153 := n2_; have GE153 := n3_; clear n0_ n1_ n2_ n3_; clear hb hbox hg; have hcz9_0 : w8.cell? ⟨gb153, 0, none⟩ = some (.string a0_0) := (blk_cell BK153.out 0).trans rfl; have hcz9_1 : w8.cell? ⟨gb153, 1, none⟩ = some (.string a0_1) := (blk_cell BK153.out 1).trans rfl; have hcz9_2 : w8.cell? ⟨gb153, 2, none⟩ = some (.int .i64 a0_2) := (blk_cell BK153.out 2).trans rfl; have hcz9_3 : w8.cell? ⟨gb153, 3, none⟩ = some (.int .i64 a0_3) := (blk_cell BK153.out 3).trans rfl; have hfz9_0 := blk_frozen BK153.out 0; have hfz9_1 := blk_frozen BK153.out 1; have hfz9_2 := blk_frozen BK153.out 2; have hfz9_3 := blk_frozen BK153.out 3))
      have n0_ := Aside0.mk (blk_drew BK153.out)
      have n1_ := Aside0.mk (below_drew1 HB.out)
      clear BK153
      clear HB
      have BK153 := n0_
      have HB := n1_
      clear n0_ n1_
      refine start_ (n := 10) (S := fun w' => w'.cell? ⟨gb153, 0, none⟩ = some (.string a0_0) ∧ w'.cell? ⟨gb153, 1, none⟩ = some (.string a0_1) ∧ w'.cell? ⟨gb153, 2, none⟩ = some (.int .i64 a0_2) ∧ w'.cell? ⟨gb153, 3, none⟩ = some (.int .i64 a0_3)) (ds := []) #[false, false, false, false, false, false, false, false, false, false] (by kernel_rfl) rfl rfl ⟨(blk_cell BK153.out 0).trans rfl, (blk_cell BK153.out 1).trans rfl, (blk_cell BK153.out 2).trans rfl, (blk_cell BK153.out 3).trans rfl⟩ (fun hHeld => ?_); refine with_tabW supercargoref22_Line.tab2 supercargoref22_Line.bits2 (fun HT_ HW_ => ?_)
      generalize w8.drew = w10 at BK153 HB hHeld ⊢
      refine pure_ (i := 0) (N := some 7) (v := ?_) (a' := ?_) #[true, false, false, false, false, false, false, false, false, false] rfl rfl (any_of HT_.out (by kernel_rfl)) (fun _ _ _ h => h) (Or.inl ⟨by rfl, ?_⟩) ?_ ?_
      rotate_left
      ·intro w'
       go_simp
       with_reducible rfl
      rotate_left
      ·simp only [Act.put, setIfInBounds_toArray, set_cons_zero, set_cons_succ, i64_w]
       rfl
      refine pure_ (i := 4) (N := some 11) (v := ?_) (a' := ?_) #[true, false, false, false, true, false, false, false, false, false] rfl rfl (any_of HT_.out (by kernel_rfl)) (fun _ _ _ h => h) (Or.inl ⟨by rfl, ?_⟩) ?_ ?_
      rotate_left
      ·intro w'
       go_simp
       with_reducible rfl
      rotate_left
      ·simp only [Act.put, setIfInBounds_toArray, set_cons_zero, set_cons_succ, i64_w]
       rfl
      refine take_ (i := 1) (N := some 8) (v := ?_) (a' := ?_) #[true, true, false, false, true, false, false, false, false, false] rfl rfl (take_ofW HT_.out HW_.out (by kernel_rfl)) (fun _ _ _ h => h) (Or.inl ⟨by rfl, ?_⟩) hHeld ?_ ?_
      rotate_left
      ·rintro w' ⟨s0, s1, s2, s3⟩
       go_simp
       with_reducible rfl
      rotate_left
      ·simp only [Act.put, setIfInBounds_toArray, set_cons_zero, set_cons_succ, i64_w]
       rfl
      refine pure_ (i := 2) (N := some 9) (v := ?_) (a' := ?_) #[true, true, true, false, true, false, false, false, false, false] rfl rfl (any_of HT_.out (by kernel_rfl)) (fun _ _ _ h => h) (Or.inl ⟨by rfl, ?_⟩) ?_ ?_
      rotate_left
      ·intro w'
       go_simp
       with_reducible rfl
      rotate_left
      ·simp only [Act.put, setIfInBounds_toArray, set_cons_zero, set_cons_succ, i64_w]
       rfl
      refine pure_ (i := 3) (N := some 10) (v := ?_) (a' := ?_) #[true, true, true, true, true, false, false, false, false, false] rfl rfl (any_of HT_.out (by kernel_rfl)) (fun _ _ _ h => h) (Or.inl ⟨by rfl, ?_⟩) ?_ ?_
      rotate_left
      ·intro w'
       go_simp
       with_reducible rfl
      rotate_left
      ·simp only [Act.put, setIfInBounds_toArray, set_cons_zero, set_cons_succ, i64_w]
       rfl
      refine take_ (i := 5) (N := some 12) (v := ?_) (a' := ?_) #[true, true, true, true, true, true, false, false, false, false] rfl rfl (take_ofW HT_.out HW_.out (by kernel_rfl)) (fun _ _ _ h => h) (Or.inl ⟨by rfl, ?_⟩) hHeld ?_ ?_
      rotate_left
      ·rintro w' ⟨s0, s1, s2, s3⟩
       go_simp
       with_reducible rfl
      rotate_left
      ·simp only [Act.put, setIfInBounds_toArray, set_cons_zero, set_cons_succ, i64_w]
       rfl
      refine one_ (i := 6) (N := some 13) #[true, true, true, true, true, true, true, false, false, false] rfl rfl (one_of HT_.out (by kernel_rfl)) (by decide) (fun K hK => ?_)
      refine goes_ Tryd.func29 (by kernel_rfl) rfl #[.int .i64 a0_3] (by rfl) rfl rfl (by (try simp only [List.map_toArray, List.map_cons, List.map_nil]); first | done | rfl | (simp only [List.length_drop, List.length_take]; rfl)) ?_
      with_reducible refine (supercargoref22_Digits.calls k a0_3 t154 _ A5.out).mono ?_
      rintro e w11 ⟨rfl, hb⟩
      refine ⟨_, rfl, ?_⟩
      have n0_ := Aside0.mk (blk_below (g := gb153) (o := .cells #[.string a0_0, .string a0_1, .int .i64 a0_2, .int .i64 a0_3] 34 (0, 0)) (by (with_reducible repeat (first | refine blk_drewN ?_ _ | refine blk_drew ?_ | refine blk_alloc ?_ _)); exact BK153.out) hb)
      have n1_ := Aside0.mk (below_step (by repeat (first | (with_reducible first | exact HB.out | apply below_alloc | apply pw_below_drewN | apply below_drew1 | refine below_set ?_ GE153.out) | exact HB.out)) hb)
      clear BK153
      clear HB
      have BK153 := n0_
      have HB := n1_
      clear n0_ n1_
      (try clear hb)
      (try clear hb2)
      (try clear hk)
      (try clear hi)
      refine hK.out _ _ ⟨(blk_cell BK153.out 0).trans rfl, (blk_cell BK153.out 1).trans rfl, (blk_cell BK153.out 2).trans rfl, (blk_cell BK153.out 3).trans rfl⟩ (fun hHeld => ?_)
      clear hK K
      refine norm_ (a' := ?_) ?_ ?_
      rotate_left
      ·show Act.put _ (some 13) _ = _
       simp only [Act.put, setIfInBounds_toArray, set_cons_zero, set_cons_succ, i64_w]
       rfl
      refine pure_ (i := 7) (N := some 14) (v := ?_) (a' := ?_) #[true, true, true, true, true, true, true, true, false, false] rfl rfl (any_of HT_.out (by kernel_rfl)) (fun _ _ _ h => h) (Or.inl ⟨by rfl, ?_⟩) ?_ ?_
      rotate_left
      ·intro w'
       go_simp
       with_reducible rfl
      rotate_left
      ·simp only [Act.put, setIfInBounds_toArray, set_cons_zero, set_cons_succ, i64_w]
       rfl
      refine pure_ (i := 8) (N := some 15) (v := ?_) (a' := ?_) #[true, true, true, true, true, true, true, true, true, false] rfl rfl (any_of HT_.out (by kernel_rfl)) (fun _ _ _ h => h) (Or.inl ⟨by rfl, ?_⟩) ?_ ?_
      rotate_left
      ·intro w'
       go_simp
       with_reducible rfl
      rotate_left
      ·simp only [Act.put, setIfInBounds_toArray, set_cons_zero, set_cons_succ, i64_w]
       rfl
      refine pure_ (i := 9) (N := some 2) (v := ?_) (a' := ?_) #[true, true, true, true, true, true, true, true, true, true] rfl rfl (any_of HT_.out (by kernel_rfl)) (fun _ _ _ h => h) (Or.inl ⟨by rfl, ?_⟩) ?_ ?_
      rotate_left
      ·intro w'
       go_simp
       with_reducible rfl
      rotate_left
      ·simp only [Act.put, setIfInBounds_toArray, set_cons_zero, set_cons_succ, i64_w]
       rfl
      refine done_ (done_of HT_.out (by kernel_rfl)) ?_
      try go_wp2
      go_ret
      exact ⟨by first | rfl | (simp [errW_none, errW_some] <;> rfl) | (simp [*, errW_none, errW_some] <;> rfl), by repeat (first | (with_reducible first | exact HB.out | apply below_alloc | apply pw_below_drewN | apply below_drew1 | refine below_set ?_ GE153.out) | exact HB.out)⟩
     ·rw [if_neg c7] at H
      exact absurd H (by simp)
    ·rw [if_neg c6] at H
     exact absurd H (by simp)
   ·rw [if_neg c4] at H
    exact absurd H (by simp)
  ·rw [if_neg c3] at H
   exact absurd H (by simp)
 ·rw [if_neg c2] at H
  have c2b0 : (a0_2 == 1) = false := beq_eq_false_iff_ne.mpr c2
  have c2b1 : (a0_2 != 1) = true := bne_iff_ne.mpr c2
  by_cases c12 : a0_2 = 2
  ·rw [if_pos c12] at H
   have c12b0 : (a0_2 == 2) = true := beq_iff_eq.mpr c12
   have c12b1 : (a0_2 != 2) = false := bne_eq_false_iff_eq.mpr c12
   clear c12
   by_cases c13 : 5 + a0_0.size ≤ 9223372036854775807
   ·rw [if_pos c13] at H
    have c13b0 := eq_true c13
    have c13b1 : decide (5 + a0_0.size ≤ 9223372036854775807) = true := decide_eq_true c13
    try have c13b2 : (9223372036854775807 < 5 + a0_0.size) = False := eq_false (Nat.not_lt.2 c13)
    by_cases c14 : ((⟨#[111, 110, 108, 121, 32]⟩ : ByteArray) ++ a0_0).size + 1 ≤ 9223372036854775807
    ·rw [if_pos c14] at H
     have c14b0 := eq_true c14
     have c14b1 : decide (((⟨#[111, 110, 108, 121, 32]⟩ : ByteArray) ++ a0_0).size + 1 ≤ 9223372036854775807) = true := decide_eq_true c14
     try have c14b2 : (9223372036854775807 < ((⟨#[111, 110, 108, 121, 32]⟩ : ByteArray) ++ a0_0).size + 1) = False := eq_false (Nat.not_lt.2 c14)
     try (have c14b3 := c14; simp [ByteArray.size_append, PrintScope.size_mk] at c14b3)
     try (have c14b4 := eq_false (Nat.not_lt.2 c14b3))
     try (have c14b9 := eq_false (Nat.not_lt.2 (by have h_ := c14; simp only [ByteArray.size_append, PrintScope.size_mk, List.size_toArray, List.length_cons, List.length_nil, Nat.zero_add, Nat.reduceAdd] at h_; exact h_)))
     by_cases c15 : (((⟨#[111, 110, 108, 121, 32]⟩ : ByteArray) ++ a0_0) ++ (⟨#[32]⟩ : ByteArray)).size + a0_1.size ≤ 9223372036854775807
     ·rw [if_pos c15] at H
      have c15b0 := eq_true c15
      have c15b1 : decide ((((⟨#[111, 110, 108, 121, 32]⟩ : ByteArray) ++ a0_0) ++ (⟨#[32]⟩ : ByteArray)).size + a0_1.size ≤ 9223372036854775807) = true := decide_eq_true c15
      try have c15b2 : (9223372036854775807 < (((⟨#[111, 110, 108, 121, 32]⟩ : ByteArray) ++ a0_0) ++ (⟨#[32]⟩ : ByteArray)).size + a0_1.size) = False := eq_false (Nat.not_lt.2 c15)
      try (have c15b3 := c15; simp [ByteArray.size_append, PrintScope.size_mk] at c15b3)
      try (have c15b4 := eq_false (Nat.not_lt.2 c15b3))
      try (have c15b9 := eq_false (Nat.not_lt.2 (by have h_ := c15; simp only [ByteArray.size_append, PrintScope.size_mk, List.size_toArray, List.length_cons, List.length_nil, Nat.zero_add, Nat.reduceAdd] at h_; exact h_)))
      by_cases c16 : ((((⟨#[111, 110, 108, 121, 32]⟩ : ByteArray) ++ a0_0) ++ (⟨#[32]⟩ : ByteArray)) ++ a0_1).size + 1 ≤ 9223372036854775807
      ·rw [if_pos c16] at H
       have c16b0 := eq_true c16
       have c16b1 : decide (((((⟨#[111, 110, 108, 121, 32]⟩ : ByteArray) ++ a0_0) ++ (⟨#[32]⟩ : ByteArray)) ++ a0_1).size + 1 ≤ 9223372036854775807) = true := decide_eq_true c16
       try have c16b2 : (9223372036854775807 < ((((⟨#[111, 110, 108, 121, 32]⟩ : ByteArray) ++ a0_0) ++ (⟨#[32]⟩ : ByteArray)) ++ a0_1).size + 1) = False := eq_false (Nat.not_lt.2 c16)
       try (have c16b3 := c16; simp [ByteArray.size_append, PrintScope.size_mk] at c16b3)
       try (have c16b4 := eq_false (Nat.not_lt.2 c16b3))
       try (have c16b9 := eq_false (Nat.not_lt.2 (by have h_ := c16; simp only [ByteArray.size_append, PrintScope.size_mk, List.size_toArray, List.length_cons, List.length_nil, Nat.zero_add, Nat.reduceAdd] at h_; exact h_)))
       replace H := Option.bind_eq_some_iff.mp H
       obtain ⟨t155, A170, H⟩ := H
       replace H : (if (((((⟨#[111, 110, 108, 121, 32]⟩ : ByteArray) ++ a0_0) ++ (⟨#[32]⟩ : ByteArray)) ++ a0_1) ++ (⟨#[32]⟩ : ByteArray)).size + t155.size ≤ 9223372036854775807 then (if ((((((⟨#[111, 110, 108, 121, 32]⟩ : ByteArray) ++ a0_0) ++ (⟨#[32]⟩ : ByteArray)) ++ a0_1) ++ (⟨#[32]⟩ : ByteArray)) ++ t155).size + 1 ≤ 9223372036854775807 then (some (((((((⟨#[111, 110, 108, 121, 32]⟩ : ByteArray) ++ a0_0) ++ (⟨#[32]⟩ : ByteArray)) ++ a0_1) ++ (⟨#[32]⟩ : ByteArray)) ++ t155) ++ (⟨#[10]⟩ : ByteArray))) else (none)) else (none)) = some r := H
       have A17 := Aside0.mk A170
       clear A170
       by_cases c18 : (((((⟨#[111, 110, 108, 121, 32]⟩ : ByteArray) ++ a0_0) ++ (⟨#[32]⟩ : ByteArray)) ++ a0_1) ++ (⟨#[32]⟩ : ByteArray)).size + t155.size ≤ 9223372036854775807
       ·rw [if_pos c18] at H
        have c18b0 := eq_true c18
        have c18b1 : decide ((((((⟨#[111, 110, 108, 121, 32]⟩ : ByteArray) ++ a0_0) ++ (⟨#[32]⟩ : ByteArray)) ++ a0_1) ++ (⟨#[32]⟩ : ByteArray)).size + t155.size ≤ 9223372036854775807) = true := decide_eq_true c18
        try have c18b2 : (9223372036854775807 < (((((⟨#[111, 110, 108, 121, 32]⟩ : ByteArray) ++ a0_0) ++ (⟨#[32]⟩ : ByteArray)) ++ a0_1) ++ (⟨#[32]⟩ : ByteArray)).size + t155.size) = False := eq_false (Nat.not_lt.2 c18)
        try (have c18b3 := c18; simp [ByteArray.size_append, PrintScope.size_mk] at c18b3)
        try (have c18b4 := eq_false (Nat.not_lt.2 c18b3))
        try (have c18b9 := eq_false (Nat.not_lt.2 (by have h_ := c18; simp only [ByteArray.size_append, PrintScope.size_mk, List.size_toArray, List.length_cons, List.length_nil, Nat.zero_add, Nat.reduceAdd] at h_; exact h_)))
        by_cases c19 : ((((((⟨#[111, 110, 108, 121, 32]⟩ : ByteArray) ++ a0_0) ++ (⟨#[32]⟩ : ByteArray)) ++ a0_1) ++ (⟨#[32]⟩ : ByteArray)) ++ t155).size + 1 ≤ 9223372036854775807
        ·rw [if_pos c19] at H
         have c19b0 := eq_true c19
         have c19b1 : decide (((((((⟨#[111, 110, 108, 121, 32]⟩ : ByteArray) ++ a0_0) ++ (⟨#[32]⟩ : ByteArray)) ++ a0_1) ++ (⟨#[32]⟩ : ByteArray)) ++ t155).size + 1 ≤ 9223372036854775807) = true := decide_eq_true c19
         try have c19b2 : (9223372036854775807 < ((((((⟨#[111, 110, 108, 121, 32]⟩ : ByteArray) ++ a0_0) ++ (⟨#[32]⟩ : ByteArray)) ++ a0_1) ++ (⟨#[32]⟩ : ByteArray)) ++ t155).size + 1) = False := eq_false (Nat.not_lt.2 c19)
         try (have c19b3 := c19; simp [ByteArray.size_append, PrintScope.size_mk] at c19b3)
         try (have c19b4 := eq_false (Nat.not_lt.2 c19b3))
         try (have c19b9 := eq_false (Nat.not_lt.2 (by have h_ := c19; simp only [ByteArray.size_append, PrintScope.size_mk, List.size_toArray, List.length_cons, List.length_nil, Nat.zero_add, Nat.reduceAdd] at h_; exact h_)))
         obtain rfl := Option.some.inj H
         go_enter Tryd.func18, Tryd.ntmps18
         try go_wp2_with (first | ((with_reducible refine gate_dst (N := 1) rfl ?_); refine box_event ?hg (N := 1) ?hd (cs := #[.string a0_0, .string a0_1, .int .i64 a0_2, .int .i64 a0_3]) (t := 34) ?hr ?_; (case hd => rfl); (case hg => rfl); (case hr => first | (go_simp; done) | (go_simp; rfl)); intro gb153 hg w20 hbox hb; have n0_ := Aside0.mk (below_step (by repeat (first | (with_reducible first | exact HB.out | apply below_alloc | apply pw_below_drewN | apply below_drew1) | exact HB.out)) hb); have n1_ := Aside0.mk (hbox); have n2_ := Aside0.mk ((by rw [hg]; exact (below_size (by repeat (first | (with_reducible first | exact HB.out | apply below_alloc | apply pw_below_drewN | apply below_drew1) | exact HB.out))) : w.heap.size ≤ gb153)); have n3_ := Aside0.mk ((by rw [hg]; exact (below_size (by repeat (first | (with_reducible first | exact HB.out | apply below_alloc | apply pw_below_drewN | apply below_drew1) | exact HB.out))) : w.heap.size ≤ gb153)); clear HB; have HB := n0_; have BK153 := n1_; have GW153 := n2_; have GE153 := n3_; clear n0_ n1_ n2_ n3_; clear hb hbox hg; have hcz21_0 : w20.cell? ⟨gb153, 0, none⟩ = some (.string a0_0) := (blk_cell BK153.out 0).trans rfl; have hcz21_1 : w20.cell? ⟨gb153, 1, none⟩ = some (.string a0_1) := (blk_cell BK153.out 1).trans rfl; have hcz21_2 : w20.cell? ⟨gb153, 2, none⟩ = some (.int .i64 a0_2) := (blk_cell BK153.out 2).trans rfl; have hcz21_3 : w20.cell? ⟨gb153, 3, none⟩ = some (.int .i64 a0_3) := (blk_cell BK153.out 3).trans rfl; have hfz21_0 := blk_frozen BK153.out 0; have hfz21_1 := blk_frozen BK153.out 1; have hfz21_2 := blk_frozen BK153.out 2; have hfz21_3 := blk_frozen BK153.out 3))
         have n0_ := Aside0.mk (blk_drew BK153.out)
         have n1_ := Aside0.mk (below_drew1 HB.out)
         clear BK153
         clear HB
         have BK153 := n0_
         have HB := n1_
         clear n0_ n1_
         refine start_ (n := 15) (S := fun w' => w'.cell? ⟨gb153, 0, none⟩ = some (.string a0_0) ∧ w'.cell? ⟨gb153, 1, none⟩ = some (.string a0_1) ∧ w'.cell? ⟨gb153, 2, none⟩ = some (.int .i64 a0_2) ∧ w'.cell? ⟨gb153, 3, none⟩ = some (.int .i64 a0_3)) (ds := []) #[false, false, false, false, false, false, false, false, false, false, false, false, false, false, false] (by kernel_rfl) rfl rfl ⟨(blk_cell BK153.out 0).trans rfl, (blk_cell BK153.out 1).trans rfl, (blk_cell BK153.out 2).trans rfl, (blk_cell BK153.out 3).trans rfl⟩ (fun hHeld => ?_); refine with_tabW supercargoref22_Line.tab6 supercargoref22_Line.bits6 (fun HT_ HW_ => ?_)
         generalize w20.drew = w22 at BK153 HB hHeld ⊢
         refine pure_ (i := 0) (N := some 19) (v := ?_) (a' := ?_) #[true, false, false, false, false, false, false, false, false, false, false, false, false, false, false] rfl rfl (any_of HT_.out (by kernel_rfl)) (fun _ _ _ h => h) (Or.inl ⟨by rfl, ?_⟩) ?_ ?_
         rotate_left
         ·intro w'
          go_simp
          with_reducible rfl
         rotate_left
         ·simp only [Act.put, setIfInBounds_toArray, set_cons_zero, set_cons_succ, i64_w]
          rfl
         refine pure_ (i := 1) (N := some 20) (v := ?_) (a' := ?_) #[true, true, false, false, false, false, false, false, false, false, false, false, false, false, false] rfl rfl (any_of HT_.out (by kernel_rfl)) (fun _ _ _ h => h) (Or.inl ⟨by rfl, ?_⟩) ?_ ?_
         rotate_left
         ·intro w'
          go_simp
          with_reducible rfl
         rotate_left
         ·simp only [Act.put, setIfInBounds_toArray, set_cons_zero, set_cons_succ, i64_w]
          rfl
         refine pure_ (i := 5) (N := some 24) (v := ?_) (a' := ?_) #[true, true, false, false, false, true, false, false, false, false, false, false, false, false, false] rfl rfl (any_of HT_.out (by kernel_rfl)) (fun _ _ _ h => h) (Or.inl ⟨by rfl, ?_⟩) ?_ ?_
         rotate_left
         ·intro w'
          go_simp
          with_reducible rfl
         rotate_left
         ·simp only [Act.put, setIfInBounds_toArray, set_cons_zero, set_cons_succ, i64_w]
          rfl
         refine pure_ (i := 9) (N := some 28) (v := ?_) (a' := ?_) #[true, true, false, false, false, true, false, false, false, true, false, false, false, false, false] rfl rfl (any_of HT_.out (by kernel_rfl)) (fun _ _ _ h => h) (Or.inl ⟨by rfl, ?_⟩) ?_ ?_
         rotate_left
         ·intro w'
          go_simp
          with_reducible rfl
         rotate_left
         ·simp only [Act.put, setIfInBounds_toArray, set_cons_zero, set_cons_succ, i64_w]
          rfl
         refine take_ (i := 2) (N := some 21) (v := ?_) (a' := ?_) #[true, true, true, false, false, true, false, false, false, true, false, false, false, false, false] rfl rfl (take_ofW HT_.out HW_.out (by kernel_rfl)) (fun _ _ _ h => h) (Or.inl ⟨by rfl, ?_⟩) hHeld ?_ ?_
         rotate_left
         ·rintro w' ⟨s0, s1, s2, s3⟩
          go_simp
          with_reducible rfl
         rotate_left
         ·simp only [Act.put, setIfInBounds_toArray, set_cons_zero, set_cons_succ, i64_w]
          rfl
         refine pure_ (i := 3) (N := some 22) (v := ?_) (a' := ?_) #[true, true, true, true, false, true, false, false, false, true, false, false, false, false, false] rfl rfl (any_of HT_.out (by kernel_rfl)) (fun _ _ _ h => h) (Or.inl ⟨by rfl, ?_⟩) ?_ ?_
         rotate_left
         ·intro w'
          go_simp
          with_reducible rfl
         rotate_left
         ·simp only [Act.put, setIfInBounds_toArray, set_cons_zero, set_cons_succ, i64_w]
          rfl
         refine pure_ (i := 4) (N := some 23) (v := ?_) (a' := ?_) #[true, true, true, true, true, true, false, false, false, true, false, false, false, false, false] rfl rfl (any_of HT_.out (by kernel_rfl)) (fun _ _ _ h => h) (Or.inl ⟨by rfl, ?_⟩) ?_ ?_
         rotate_left
         ·intro w'
          go_simp
          with_reducible rfl
         rotate_left
         ·simp only [Act.put, setIfInBounds_toArray, set_cons_zero, set_cons_succ, i64_w]
          rfl
         refine take_ (i := 6) (N := some 25) (v := ?_) (a' := ?_) #[true, true, true, true, true, true, true, false, false, true, false, false, false, false, false] rfl rfl (take_ofW HT_.out HW_.out (by kernel_rfl)) (fun _ _ _ h => h) (Or.inl ⟨by rfl, ?_⟩) hHeld ?_ ?_
         rotate_left
         ·rintro w' ⟨s0, s1, s2, s3⟩
          go_simp
          with_reducible rfl
         rotate_left
         ·simp only [Act.put, setIfInBounds_toArray, set_cons_zero, set_cons_succ, i64_w]
          rfl
         refine pure_ (i := 7) (N := some 26) (v := ?_) (a' := ?_) #[true, true, true, true, true, true, true, true, false, true, false, false, false, false, false] rfl rfl (any_of HT_.out (by kernel_rfl)) (fun _ _ _ h => h) (Or.inl ⟨by rfl, ?_⟩) ?_ ?_
         rotate_left
         ·intro w'
          go_simp
          with_reducible rfl
         rotate_left
         ·simp only [Act.put, setIfInBounds_toArray, set_cons_zero, set_cons_succ, i64_w]
          rfl
         refine pure_ (i := 8) (N := some 27) (v := ?_) (a' := ?_) #[true, true, true, true, true, true, true, true, true, true, false, false, false, false, false] rfl rfl (any_of HT_.out (by kernel_rfl)) (fun _ _ _ h => h) (Or.inl ⟨by rfl, ?_⟩) ?_ ?_
         rotate_left
         ·intro w'
          go_simp
          with_reducible rfl
         rotate_left
         ·simp only [Act.put, setIfInBounds_toArray, set_cons_zero, set_cons_succ, i64_w]
          rfl
         refine take_ (i := 10) (N := some 29) (v := ?_) (a' := ?_) #[true, true, true, true, true, true, true, true, true, true, true, false, false, false, false] rfl rfl (take_ofW HT_.out HW_.out (by kernel_rfl)) (fun _ _ _ h => h) (Or.inl ⟨by rfl, ?_⟩) hHeld ?_ ?_
         rotate_left
         ·rintro w' ⟨s0, s1, s2, s3⟩
          go_simp
          with_reducible rfl
         rotate_left
         ·simp only [Act.put, setIfInBounds_toArray, set_cons_zero, set_cons_succ, i64_w]
          rfl
         refine one_ (i := 11) (N := some 30) #[true, true, true, true, true, true, true, true, true, true, true, true, false, false, false] rfl rfl (one_of HT_.out (by kernel_rfl)) (by decide) (fun K hK => ?_)
         refine goes_ Tryd.func29 (by kernel_rfl) rfl #[.int .i64 a0_3] (by rfl) rfl rfl (by (try simp only [List.map_toArray, List.map_cons, List.map_nil]); first | done | rfl | (simp only [List.length_drop, List.length_take]; rfl)) ?_
         with_reducible refine (supercargoref22_Digits.calls k a0_3 t155 _ A17.out).mono ?_
         rintro e w23 ⟨rfl, hb⟩
         refine ⟨_, rfl, ?_⟩
         have n0_ := Aside0.mk (blk_below (g := gb153) (o := .cells #[.string a0_0, .string a0_1, .int .i64 a0_2, .int .i64 a0_3] 34 (0, 0)) (by (with_reducible repeat (first | refine blk_drewN ?_ _ | refine blk_drew ?_ | refine blk_alloc ?_ _)); exact BK153.out) hb)
         have n1_ := Aside0.mk (below_step (by repeat (first | (with_reducible first | exact HB.out | apply below_alloc | apply pw_below_drewN | apply below_drew1 | refine below_set ?_ GE153.out) | exact HB.out)) hb)
         clear BK153
         clear HB
         have BK153 := n0_
         have HB := n1_
         clear n0_ n1_
         (try clear hb)
         (try clear hb2)
         (try clear hk)
         (try clear hi)
         refine hK.out _ _ ⟨(blk_cell BK153.out 0).trans rfl, (blk_cell BK153.out 1).trans rfl, (blk_cell BK153.out 2).trans rfl, (blk_cell BK153.out 3).trans rfl⟩ (fun hHeld => ?_)
         clear hK K
         refine norm_ (a' := ?_) ?_ ?_
         rotate_left
         ·show Act.put _ (some 30) _ = _
          simp only [Act.put, setIfInBounds_toArray, set_cons_zero, set_cons_succ, i64_w]
          rfl
         refine pure_ (i := 12) (N := some 31) (v := ?_) (a' := ?_) #[true, true, true, true, true, true, true, true, true, true, true, true, true, false, false] rfl rfl (any_of HT_.out (by kernel_rfl)) (fun _ _ _ h => h) (Or.inl ⟨by rfl, ?_⟩) ?_ ?_
         rotate_left
         ·intro w'
          go_simp
          with_reducible rfl
         rotate_left
         ·simp only [Act.put, setIfInBounds_toArray, set_cons_zero, set_cons_succ, i64_w]
          rfl
         refine pure_ (i := 13) (N := some 32) (v := ?_) (a' := ?_) #[true, true, true, true, true, true, true, true, true, true, true, true, true, true, false] rfl rfl (any_of HT_.out (by kernel_rfl)) (fun _ _ _ h => h) (Or.inl ⟨by rfl, ?_⟩) ?_ ?_
         rotate_left
         ·intro w'
          go_simp
          with_reducible rfl
         rotate_left
         ·simp only [Act.put, setIfInBounds_toArray, set_cons_zero, set_cons_succ, i64_w]
          rfl
         refine pure_ (i := 14) (N := some 2) (v := ?_) (a' := ?_) #[true, true, true, true, true, true, true, true, true, true, true, true, true, true, true] rfl rfl (any_of HT_.out (by kernel_rfl)) (fun _ _ _ h => h) (Or.inl ⟨by rfl, ?_⟩) ?_ ?_
         rotate_left
         ·intro w'
          go_simp
          with_reducible rfl
         rotate_left
         ·simp only [Act.put, setIfInBounds_toArray, set_cons_zero, set_cons_succ, i64_w]
          rfl
         refine done_ (done_of HT_.out (by kernel_rfl)) ?_
         try go_wp2
         go_ret
         exact ⟨by first | rfl | (simp [errW_none, errW_some] <;> rfl) | (simp [*, errW_none, errW_some] <;> rfl), by repeat (first | (with_reducible first | exact HB.out | apply below_alloc | apply pw_below_drewN | apply below_drew1 | refine below_set ?_ GE153.out) | exact HB.out)⟩
        ·rw [if_neg c19] at H
         exact absurd H (by simp)
       ·rw [if_neg c18] at H
        exact absurd H (by simp)
      ·rw [if_neg c16] at H
       exact absurd H (by simp)
     ·rw [if_neg c15] at H
      exact absurd H (by simp)
    ·rw [if_neg c14] at H
     exact absurd H (by simp)
   ·rw [if_neg c13] at H
    exact absurd H (by simp)
  ·rw [if_neg c12] at H
   have c12b0 : (a0_2 == 2) = false := beq_eq_false_iff_ne.mpr c12
   have c12b1 : (a0_2 != 2) = true := bne_iff_ne.mpr c12
   by_cases c24 : 6 + a0_0.size ≤ 9223372036854775807
   ·rw [if_pos c24] at H
    have c24b0 := eq_true c24
    have c24b1 : decide (6 + a0_0.size ≤ 9223372036854775807) = true := decide_eq_true c24
    try have c24b2 : (9223372036854775807 < 6 + a0_0.size) = False := eq_false (Nat.not_lt.2 c24)
    by_cases c25 : ((⟨#[111, 114, 100, 101, 114, 32]⟩ : ByteArray) ++ a0_0).size + 1 ≤ 9223372036854775807
    ·rw [if_pos c25] at H
     have c25b0 := eq_true c25
     have c25b1 : decide (((⟨#[111, 114, 100, 101, 114, 32]⟩ : ByteArray) ++ a0_0).size + 1 ≤ 9223372036854775807) = true := decide_eq_true c25
     try have c25b2 : (9223372036854775807 < ((⟨#[111, 114, 100, 101, 114, 32]⟩ : ByteArray) ++ a0_0).size + 1) = False := eq_false (Nat.not_lt.2 c25)
     try (have c25b3 := c25; simp [ByteArray.size_append, PrintScope.size_mk] at c25b3)
     try (have c25b4 := eq_false (Nat.not_lt.2 c25b3))
     try (have c25b9 := eq_false (Nat.not_lt.2 (by have h_ := c25; simp only [ByteArray.size_append, PrintScope.size_mk, List.size_toArray, List.length_cons, List.length_nil, Nat.zero_add, Nat.reduceAdd] at h_; exact h_)))
     by_cases c26 : (((⟨#[111, 114, 100, 101, 114, 32]⟩ : ByteArray) ++ a0_0) ++ (⟨#[32]⟩ : ByteArray)).size + a0_1.size ≤ 9223372036854775807
     ·rw [if_pos c26] at H
      have c26b0 := eq_true c26
      have c26b1 : decide ((((⟨#[111, 114, 100, 101, 114, 32]⟩ : ByteArray) ++ a0_0) ++ (⟨#[32]⟩ : ByteArray)).size + a0_1.size ≤ 9223372036854775807) = true := decide_eq_true c26
      try have c26b2 : (9223372036854775807 < (((⟨#[111, 114, 100, 101, 114, 32]⟩ : ByteArray) ++ a0_0) ++ (⟨#[32]⟩ : ByteArray)).size + a0_1.size) = False := eq_false (Nat.not_lt.2 c26)
      try (have c26b3 := c26; simp [ByteArray.size_append, PrintScope.size_mk] at c26b3)
      try (have c26b4 := eq_false (Nat.not_lt.2 c26b3))
      try (have c26b9 := eq_false (Nat.not_lt.2 (by have h_ := c26; simp only [ByteArray.size_append, PrintScope.size_mk, List.size_toArray, List.length_cons, List.length_nil, Nat.zero_add, Nat.reduceAdd] at h_; exact h_)))
      by_cases c27 : ((((⟨#[111, 114, 100, 101, 114, 32]⟩ : ByteArray) ++ a0_0) ++ (⟨#[32]⟩ : ByteArray)) ++ a0_1).size + 1 ≤ 9223372036854775807
      ·rw [if_pos c27] at H
       have c27b0 := eq_true c27
       have c27b1 : decide (((((⟨#[111, 114, 100, 101, 114, 32]⟩ : ByteArray) ++ a0_0) ++ (⟨#[32]⟩ : ByteArray)) ++ a0_1).size + 1 ≤ 9223372036854775807) = true := decide_eq_true c27
       try have c27b2 : (9223372036854775807 < ((((⟨#[111, 114, 100, 101, 114, 32]⟩ : ByteArray) ++ a0_0) ++ (⟨#[32]⟩ : ByteArray)) ++ a0_1).size + 1) = False := eq_false (Nat.not_lt.2 c27)
       try (have c27b3 := c27; simp [ByteArray.size_append, PrintScope.size_mk] at c27b3)
       try (have c27b4 := eq_false (Nat.not_lt.2 c27b3))
       try (have c27b9 := eq_false (Nat.not_lt.2 (by have h_ := c27; simp only [ByteArray.size_append, PrintScope.size_mk, List.size_toArray, List.length_cons, List.length_nil, Nat.zero_add, Nat.reduceAdd] at h_; exact h_)))
       replace H := Option.bind_eq_some_iff.mp H
       obtain ⟨t156, A280, H⟩ := H
       replace H : (if (((((⟨#[111, 114, 100, 101, 114, 32]⟩ : ByteArray) ++ a0_0) ++ (⟨#[32]⟩ : ByteArray)) ++ a0_1) ++ (⟨#[32]⟩ : ByteArray)).size + t156.size ≤ 9223372036854775807 then (if ((((((⟨#[111, 114, 100, 101, 114, 32]⟩ : ByteArray) ++ a0_0) ++ (⟨#[32]⟩ : ByteArray)) ++ a0_1) ++ (⟨#[32]⟩ : ByteArray)) ++ t156).size + 1 ≤ 9223372036854775807 then (some (((((((⟨#[111, 114, 100, 101, 114, 32]⟩ : ByteArray) ++ a0_0) ++ (⟨#[32]⟩ : ByteArray)) ++ a0_1) ++ (⟨#[32]⟩ : ByteArray)) ++ t156) ++ (⟨#[10]⟩ : ByteArray))) else (none)) else (none)) = some r := H
       have A28 := Aside0.mk A280
       clear A280
       by_cases c29 : (((((⟨#[111, 114, 100, 101, 114, 32]⟩ : ByteArray) ++ a0_0) ++ (⟨#[32]⟩ : ByteArray)) ++ a0_1) ++ (⟨#[32]⟩ : ByteArray)).size + t156.size ≤ 9223372036854775807
       ·rw [if_pos c29] at H
        have c29b0 := eq_true c29
        have c29b1 : decide ((((((⟨#[111, 114, 100, 101, 114, 32]⟩ : ByteArray) ++ a0_0) ++ (⟨#[32]⟩ : ByteArray)) ++ a0_1) ++ (⟨#[32]⟩ : ByteArray)).size + t156.size ≤ 9223372036854775807) = true := decide_eq_true c29
        try have c29b2 : (9223372036854775807 < (((((⟨#[111, 114, 100, 101, 114, 32]⟩ : ByteArray) ++ a0_0) ++ (⟨#[32]⟩ : ByteArray)) ++ a0_1) ++ (⟨#[32]⟩ : ByteArray)).size + t156.size) = False := eq_false (Nat.not_lt.2 c29)
        try (have c29b3 := c29; simp [ByteArray.size_append, PrintScope.size_mk] at c29b3)
        try (have c29b4 := eq_false (Nat.not_lt.2 c29b3))
        try (have c29b9 := eq_false (Nat.not_lt.2 (by have h_ := c29; simp only [ByteArray.size_append, PrintScope.size_mk, List.size_toArray, List.length_cons, List.length_nil, Nat.zero_add, Nat.reduceAdd] at h_; exact h_)))
        by_cases c30 : ((((((⟨#[111, 114, 100, 101, 114, 32]⟩ : ByteArray) ++ a0_0) ++ (⟨#[32]⟩ : ByteArray)) ++ a0_1) ++ (⟨#[32]⟩ : ByteArray)) ++ t156).size + 1 ≤ 9223372036854775807
        ·rw [if_pos c30] at H
         have c30b0 := eq_true c30
         have c30b1 : decide (((((((⟨#[111, 114, 100, 101, 114, 32]⟩ : ByteArray) ++ a0_0) ++ (⟨#[32]⟩ : ByteArray)) ++ a0_1) ++ (⟨#[32]⟩ : ByteArray)) ++ t156).size + 1 ≤ 9223372036854775807) = true := decide_eq_true c30
         try have c30b2 : (9223372036854775807 < ((((((⟨#[111, 114, 100, 101, 114, 32]⟩ : ByteArray) ++ a0_0) ++ (⟨#[32]⟩ : ByteArray)) ++ a0_1) ++ (⟨#[32]⟩ : ByteArray)) ++ t156).size + 1) = False := eq_false (Nat.not_lt.2 c30)
         try (have c30b3 := c30; simp [ByteArray.size_append, PrintScope.size_mk] at c30b3)
         try (have c30b4 := eq_false (Nat.not_lt.2 c30b3))
         try (have c30b9 := eq_false (Nat.not_lt.2 (by have h_ := c30; simp only [ByteArray.size_append, PrintScope.size_mk, List.size_toArray, List.length_cons, List.length_nil, Nat.zero_add, Nat.reduceAdd] at h_; exact h_)))
         obtain rfl := Option.some.inj H
         go_enter Tryd.func18, Tryd.ntmps18
         try go_wp2_with (first | ((with_reducible refine gate_dst (N := 1) rfl ?_); refine box_event ?hg (N := 1) ?hd (cs := #[.string a0_0, .string a0_1, .int .i64 a0_2, .int .i64 a0_3]) (t := 34) ?hr ?_; (case hd => rfl); (case hg => rfl); (case hr => first | (go_simp; done) | (go_simp; rfl)); intro gb153 hg w31 hbox hb; have n0_ := Aside0.mk (below_step (by repeat (first | (with_reducible first | exact HB.out | apply below_alloc | apply pw_below_drewN | apply below_drew1) | exact HB.out)) hb); have n1_ := Aside0.mk (hbox); have n2_ := Aside0.mk ((by rw [hg]; exact (below_size (by repeat (first | (with_reducible first | exact HB.out | apply below_alloc | apply pw_below_drewN | apply below_drew1) | exact HB.out))) : w.heap.size ≤ gb153)); have n3_ := Aside0.mk ((by rw [hg]; exact (below_size (by repeat (first | (with_reducible first | exact HB.out | apply below_alloc | apply pw_below_drewN | apply below_drew1) | exact HB.out))) : w.heap.size ≤ gb153)); clear HB; have HB := n0_; have BK153 := n1_; have GW153 := n2_; have GE153 := n3_; clear n0_ n1_ n2_ n3_; clear hb hbox hg; have hcz32_0 : w31.cell? ⟨gb153, 0, none⟩ = some (.string a0_0) := (blk_cell BK153.out 0).trans rfl; have hcz32_1 : w31.cell? ⟨gb153, 1, none⟩ = some (.string a0_1) := (blk_cell BK153.out 1).trans rfl; have hcz32_2 : w31.cell? ⟨gb153, 2, none⟩ = some (.int .i64 a0_2) := (blk_cell BK153.out 2).trans rfl; have hcz32_3 : w31.cell? ⟨gb153, 3, none⟩ = some (.int .i64 a0_3) := (blk_cell BK153.out 3).trans rfl; have hfz32_0 := blk_frozen BK153.out 0; have hfz32_1 := blk_frozen BK153.out 1; have hfz32_2 := blk_frozen BK153.out 2; have hfz32_3 := blk_frozen BK153.out 3))
         have n0_ := Aside0.mk (blk_drew BK153.out)
         have n1_ := Aside0.mk (below_drew1 HB.out)
         clear BK153
         clear HB
         have BK153 := n0_
         have HB := n1_
         clear n0_ n1_
         refine start_ (n := 15) (S := fun w' => w'.cell? ⟨gb153, 0, none⟩ = some (.string a0_0) ∧ w'.cell? ⟨gb153, 1, none⟩ = some (.string a0_1) ∧ w'.cell? ⟨gb153, 2, none⟩ = some (.int .i64 a0_2) ∧ w'.cell? ⟨gb153, 3, none⟩ = some (.int .i64 a0_3)) (ds := []) #[false, false, false, false, false, false, false, false, false, false, false, false, false, false, false] (by kernel_rfl) rfl rfl ⟨(blk_cell BK153.out 0).trans rfl, (blk_cell BK153.out 1).trans rfl, (blk_cell BK153.out 2).trans rfl, (blk_cell BK153.out 3).trans rfl⟩ (fun hHeld => ?_); refine with_tabW supercargoref22_Line.tab6 supercargoref22_Line.bits6 (fun HT_ HW_ => ?_)
         generalize w31.drew = w33 at BK153 HB hHeld ⊢
         refine pure_ (i := 0) (N := some 19) (v := ?_) (a' := ?_) #[true, false, false, false, false, false, false, false, false, false, false, false, false, false, false] rfl rfl (any_of HT_.out (by kernel_rfl)) (fun _ _ _ h => h) (Or.inl ⟨by rfl, ?_⟩) ?_ ?_
         rotate_left
         ·intro w'
          go_simp
          with_reducible rfl
         rotate_left
         ·simp only [Act.put, setIfInBounds_toArray, set_cons_zero, set_cons_succ, i64_w]
          rfl
         refine pure_ (i := 1) (N := some 20) (v := ?_) (a' := ?_) #[true, true, false, false, false, false, false, false, false, false, false, false, false, false, false] rfl rfl (any_of HT_.out (by kernel_rfl)) (fun _ _ _ h => h) (Or.inl ⟨by rfl, ?_⟩) ?_ ?_
         rotate_left
         ·intro w'
          go_simp
          with_reducible rfl
         rotate_left
         ·simp only [Act.put, setIfInBounds_toArray, set_cons_zero, set_cons_succ, i64_w]
          rfl
         refine pure_ (i := 5) (N := some 24) (v := ?_) (a' := ?_) #[true, true, false, false, false, true, false, false, false, false, false, false, false, false, false] rfl rfl (any_of HT_.out (by kernel_rfl)) (fun _ _ _ h => h) (Or.inl ⟨by rfl, ?_⟩) ?_ ?_
         rotate_left
         ·intro w'
          go_simp
          with_reducible rfl
         rotate_left
         ·simp only [Act.put, setIfInBounds_toArray, set_cons_zero, set_cons_succ, i64_w]
          rfl
         refine pure_ (i := 9) (N := some 28) (v := ?_) (a' := ?_) #[true, true, false, false, false, true, false, false, false, true, false, false, false, false, false] rfl rfl (any_of HT_.out (by kernel_rfl)) (fun _ _ _ h => h) (Or.inl ⟨by rfl, ?_⟩) ?_ ?_
         rotate_left
         ·intro w'
          go_simp
          with_reducible rfl
         rotate_left
         ·simp only [Act.put, setIfInBounds_toArray, set_cons_zero, set_cons_succ, i64_w]
          rfl
         refine take_ (i := 2) (N := some 21) (v := ?_) (a' := ?_) #[true, true, true, false, false, true, false, false, false, true, false, false, false, false, false] rfl rfl (take_ofW HT_.out HW_.out (by kernel_rfl)) (fun _ _ _ h => h) (Or.inl ⟨by rfl, ?_⟩) hHeld ?_ ?_
         rotate_left
         ·rintro w' ⟨s0, s1, s2, s3⟩
          go_simp
          with_reducible rfl
         rotate_left
         ·simp only [Act.put, setIfInBounds_toArray, set_cons_zero, set_cons_succ, i64_w]
          rfl
         refine pure_ (i := 3) (N := some 22) (v := ?_) (a' := ?_) #[true, true, true, true, false, true, false, false, false, true, false, false, false, false, false] rfl rfl (any_of HT_.out (by kernel_rfl)) (fun _ _ _ h => h) (Or.inl ⟨by rfl, ?_⟩) ?_ ?_
         rotate_left
         ·intro w'
          go_simp
          with_reducible rfl
         rotate_left
         ·simp only [Act.put, setIfInBounds_toArray, set_cons_zero, set_cons_succ, i64_w]
          rfl
         refine pure_ (i := 4) (N := some 23) (v := ?_) (a' := ?_) #[true, true, true, true, true, true, false, false, false, true, false, false, false, false, false] rfl rfl (any_of HT_.out (by kernel_rfl)) (fun _ _ _ h => h) (Or.inl ⟨by rfl, ?_⟩) ?_ ?_
         rotate_left
         ·intro w'
          go_simp
          with_reducible rfl
         rotate_left
         ·simp only [Act.put, setIfInBounds_toArray, set_cons_zero, set_cons_succ, i64_w]
          rfl
         refine take_ (i := 6) (N := some 25) (v := ?_) (a' := ?_) #[true, true, true, true, true, true, true, false, false, true, false, false, false, false, false] rfl rfl (take_ofW HT_.out HW_.out (by kernel_rfl)) (fun _ _ _ h => h) (Or.inl ⟨by rfl, ?_⟩) hHeld ?_ ?_
         rotate_left
         ·rintro w' ⟨s0, s1, s2, s3⟩
          go_simp
          with_reducible rfl
         rotate_left
         ·simp only [Act.put, setIfInBounds_toArray, set_cons_zero, set_cons_succ, i64_w]
          rfl
         refine pure_ (i := 7) (N := some 26) (v := ?_) (a' := ?_) #[true, true, true, true, true, true, true, true, false, true, false, false, false, false, false] rfl rfl (any_of HT_.out (by kernel_rfl)) (fun _ _ _ h => h) (Or.inl ⟨by rfl, ?_⟩) ?_ ?_
         rotate_left
         ·intro w'
          go_simp
          with_reducible rfl
         rotate_left
         ·simp only [Act.put, setIfInBounds_toArray, set_cons_zero, set_cons_succ, i64_w]
          rfl
         refine pure_ (i := 8) (N := some 27) (v := ?_) (a' := ?_) #[true, true, true, true, true, true, true, true, true, true, false, false, false, false, false] rfl rfl (any_of HT_.out (by kernel_rfl)) (fun _ _ _ h => h) (Or.inl ⟨by rfl, ?_⟩) ?_ ?_
         rotate_left
         ·intro w'
          go_simp
          with_reducible rfl
         rotate_left
         ·simp only [Act.put, setIfInBounds_toArray, set_cons_zero, set_cons_succ, i64_w]
          rfl
         refine take_ (i := 10) (N := some 29) (v := ?_) (a' := ?_) #[true, true, true, true, true, true, true, true, true, true, true, false, false, false, false] rfl rfl (take_ofW HT_.out HW_.out (by kernel_rfl)) (fun _ _ _ h => h) (Or.inl ⟨by rfl, ?_⟩) hHeld ?_ ?_
         rotate_left
         ·rintro w' ⟨s0, s1, s2, s3⟩
          go_simp
          with_reducible rfl
         rotate_left
         ·simp only [Act.put, setIfInBounds_toArray, set_cons_zero, set_cons_succ, i64_w]
          rfl
         refine one_ (i := 11) (N := some 30) #[true, true, true, true, true, true, true, true, true, true, true, true, false, false, false] rfl rfl (one_of HT_.out (by kernel_rfl)) (by decide) (fun K hK => ?_)
         refine goes_ Tryd.func29 (by kernel_rfl) rfl #[.int .i64 a0_3] (by rfl) rfl rfl (by (try simp only [List.map_toArray, List.map_cons, List.map_nil]); first | done | rfl | (simp only [List.length_drop, List.length_take]; rfl)) ?_
         with_reducible refine (supercargoref22_Digits.calls k a0_3 t156 _ A28.out).mono ?_
         rintro e w34 ⟨rfl, hb⟩
         refine ⟨_, rfl, ?_⟩
         have n0_ := Aside0.mk (blk_below (g := gb153) (o := .cells #[.string a0_0, .string a0_1, .int .i64 a0_2, .int .i64 a0_3] 34 (0, 0)) (by (with_reducible repeat (first | refine blk_drewN ?_ _ | refine blk_drew ?_ | refine blk_alloc ?_ _)); exact BK153.out) hb)
         have n1_ := Aside0.mk (below_step (by repeat (first | (with_reducible first | exact HB.out | apply below_alloc | apply pw_below_drewN | apply below_drew1 | refine below_set ?_ GE153.out) | exact HB.out)) hb)
         clear BK153
         clear HB
         have BK153 := n0_
         have HB := n1_
         clear n0_ n1_
         (try clear hb)
         (try clear hb2)
         (try clear hk)
         (try clear hi)
         refine hK.out _ _ ⟨(blk_cell BK153.out 0).trans rfl, (blk_cell BK153.out 1).trans rfl, (blk_cell BK153.out 2).trans rfl, (blk_cell BK153.out 3).trans rfl⟩ (fun hHeld => ?_)
         clear hK K
         refine norm_ (a' := ?_) ?_ ?_
         rotate_left
         ·show Act.put _ (some 30) _ = _
          simp only [Act.put, setIfInBounds_toArray, set_cons_zero, set_cons_succ, i64_w]
          rfl
         refine pure_ (i := 12) (N := some 31) (v := ?_) (a' := ?_) #[true, true, true, true, true, true, true, true, true, true, true, true, true, false, false] rfl rfl (any_of HT_.out (by kernel_rfl)) (fun _ _ _ h => h) (Or.inl ⟨by rfl, ?_⟩) ?_ ?_
         rotate_left
         ·intro w'
          go_simp
          with_reducible rfl
         rotate_left
         ·simp only [Act.put, setIfInBounds_toArray, set_cons_zero, set_cons_succ, i64_w]
          rfl
         refine pure_ (i := 13) (N := some 32) (v := ?_) (a' := ?_) #[true, true, true, true, true, true, true, true, true, true, true, true, true, true, false] rfl rfl (any_of HT_.out (by kernel_rfl)) (fun _ _ _ h => h) (Or.inl ⟨by rfl, ?_⟩) ?_ ?_
         rotate_left
         ·intro w'
          go_simp
          with_reducible rfl
         rotate_left
         ·simp only [Act.put, setIfInBounds_toArray, set_cons_zero, set_cons_succ, i64_w]
          rfl
         refine pure_ (i := 14) (N := some 2) (v := ?_) (a' := ?_) #[true, true, true, true, true, true, true, true, true, true, true, true, true, true, true] rfl rfl (any_of HT_.out (by kernel_rfl)) (fun _ _ _ h => h) (Or.inl ⟨by rfl, ?_⟩) ?_ ?_
         rotate_left
         ·intro w'
          go_simp
          with_reducible rfl
         rotate_left
         ·simp only [Act.put, setIfInBounds_toArray, set_cons_zero, set_cons_succ, i64_w]
          rfl
         refine done_ (done_of HT_.out (by kernel_rfl)) ?_
         try go_wp2
         go_ret
         exact ⟨by first | rfl | (simp [errW_none, errW_some] <;> rfl) | (simp [*, errW_none, errW_some] <;> rfl), by repeat (first | (with_reducible first | exact HB.out | apply below_alloc | apply pw_below_drewN | apply below_drew1 | refine below_set ?_ GE153.out) | exact HB.out)⟩
        ·rw [if_neg c30] at H
         exact absurd H (by simp)
       ·rw [if_neg c29] at H
        exact absurd H (by simp)
      ·rw [if_neg c27] at H
       exact absurd H (by simp)
     ·rw [if_neg c26] at H
      exact absurd H (by simp)
    ·rw [if_neg c25] at H
     exact absurd H (by simp)
   ·rw [if_neg c24] at H
    exact absurd H (by simp)

/-! ### supercargoref22_Text: function 8 -/
def supercargoref22_Text.l0 : Nat → List (S34) → ByteArray → Int → Option (ByteArray)
 | 0, _, _, _ => none
 | k + 1, x0, x3, x4 => if x4 < (x0.length : Int) then (if 0 ≤ x4 then ((supercargoref22_Right.f k ((rd_T34 x0 x4).f0) ((rd_T34 x0 x4).f1) ((rd_T34 x0 x4).f2) ((rd_T34 x0 x4).f3)).bind fun t158 => (if t158 = true then ((supercargoref22_Line.f k ((rd_T34 x0 x4).f0) ((rd_T34 x0 x4).f1) ((rd_T34 x0 x4).f2) ((rd_T34 x0 x4).f3)).bind fun t160 => (if x3.size + t160.size ≤ 9223372036854775807 then (supercargoref22_Text.l0 k x0 (x3 ++ t160) (wrap64 (x4 + 1))) else (none))) else (some (⟨#[]⟩ : ByteArray)))) else (none)) else (some x3)
def supercargoref22_Text.f (k : Nat) (l0 : List (S34)) : Option (ByteArray) := supercargoref22_Text.l0 k l0 (⟨#[]⟩ : ByteArray) 0
theorem supercargoref22_Text.mono_l : ∀ k, (∀ y0 y1 y2, LeO (supercargoref22_Text.l0 k y0 y1 y2) (supercargoref22_Text.l0 (k + 1) y0 y1 y2))
 | 0 => fun _ _ _ r h => by simp [supercargoref22_Text.l0] at h
 | k + 1 => by
  have ih0 := supercargoref22_Text.mono_l k
  ·intro y0 y1 y2
   unfold supercargoref22_Text.l0
   repeat' first
   | (with_reducible exact ih0 _ _ _)
   | (with_reducible exact supercargoref22_Line.mono _ _ _ _ _)
   | (with_reducible exact supercargoref22_Right.mono _ _ _ _ _)
   | (with_reducible exact LeO.refl _)
   | (with_reducible exact LeO.none _)
   | (with_reducible refine LeO.ite ?_ ?_)
   | (with_reducible refine LeO.bind ?_ (fun _ => ?_))
   | exact ih0 _ _ _
   | exact supercargoref22_Line.mono _ _ _ _ _
   | exact supercargoref22_Right.mono _ _ _ _ _
   | exact LeO.none _
   | refine LeO.ite ?_ ?_
   | refine LeO.bind ?_ (fun _ => ?_)
theorem supercargoref22_Text.mono : ∀ a0 k, LeO (supercargoref22_Text.f k a0) (supercargoref22_Text.f (k + 1) a0) := by
 intro a0 k
 have ih0 := supercargoref22_Text.mono_l k
 unfold supercargoref22_Text.f
 repeat' first
   | (with_reducible exact ih0 _ _ _)
   | (with_reducible exact supercargoref22_Line.mono _ _ _ _ _)
   | (with_reducible exact supercargoref22_Right.mono _ _ _ _ _)
   | (with_reducible exact LeO.refl _)
   | (with_reducible exact LeO.none _)
   | (with_reducible refine LeO.ite ?_ ?_)
   | (with_reducible refine LeO.bind ?_ (fun _ => ?_))
   | exact ih0 _ _ _
   | exact supercargoref22_Line.mono _ _ _ _ _
   | exact supercargoref22_Right.mono _ _ _ _ _
   | exact LeO.none _
   | refine LeO.ite ?_ ?_
   | refine LeO.bind ?_ (fun _ => ?_)
set_option maxHeartbeats 8000000 in
set_option maxRecDepth 100000 in
theorem supercargoref22_Text.calls (k : Nat) (A0 : Option Addr) (c0 : Nat) (l0 : List (S34)) (r : ByteArray) (w : World) (hr0 : Kd.C k34 w A0 l0.length l0) (hc0 : l0.length ≤ c0) (h : supercargoref22_Text.f k l0 = some r) :
  Calls Tryd.prog 8 #[.slice A0 l0.length c0] w fun e w' => e = .returned (.string r) ∧ Below w.heap.size w w' := by
 have hu34 := Tryd.underlying34
 have HR0 := Aside0.mk hr0
 have HC0 := Aside0.mk hc0
 clear hr0 hc0
 have HB := Aside0.mk (Below.refl w.heap.size w)
 have H : (supercargoref22_Text.l0 k l0 (⟨#[]⟩ : ByteArray) 0) = some r := h
 clear h
 have H' := Aside0.mk H
 clear H
 go_enter Tryd.func8, Tryd.ntmps8
 go_wp2
 go_loopg [3, 4] k (fun kq v3 v4 w' => ∃ (x3_1 : ByteArray) (x4_1 : Int), v3 = .string x3_1 ∧ v4 = .int .i64 x4_1 ∧ Aside0 (supercargoref22_Text.l0 kq l0 x3_1 x4_1 = some r) ∧ Aside0 (kq ≤ k) ∧ Aside0 (Below w.heap.size w w'))
 case atStart => exact ⟨((⟨#[]⟩ : ByteArray)), (0), (by first | rfl | (simp; done) | (simp [*]; done)), (by first | rfl | (simp; done) | (simp [*]; done)), H', ⟨Nat.le_refl _⟩, ⟨by repeat (first | (with_reducible first | exact HB.out | apply below_alloc | apply pw_below_drewN | apply below_drew1) | exact HB.out)⟩⟩
 case round =>
  clear H'
  obtain ⟨x3_1, x4_1, rfl, rfl, HA, HK1, HB⟩ := hrel
  cases gk with
  | zero => exact absurd HA.out (by simp [supercargoref22_Text.l0])
  | succ k1 =>
   have H := HA.out
   clear HA
   simp only [supercargoref22_Text.l0] at H
   by_cases c2 : x4_1 < (l0.length : Int)
   ·rw [if_pos c2] at H
    have c2b0 : decide (x4_1 < (l0.length : Int)) = true := decide_eq_true c2
    clear c2
    by_cases c3 : 0 ≤ x4_1
    ·rw [if_pos c3] at H
     have c3b0 : decide (0 ≤ x4_1) = true := decide_eq_true c3
     clear c3
     replace H := Option.bind_eq_some_iff.mp H
     obtain ⟨t158, A40, H⟩ := H
     replace H : (if t158 = true then ((supercargoref22_Line.f k1 ((rd_T34 l0 x4_1).f0) ((rd_T34 l0 x4_1).f1) ((rd_T34 l0 x4_1).f2) ((rd_T34 l0 x4_1).f3)).bind fun t160 => (if x3_1.size + t160.size ≤ 9223372036854775807 then (supercargoref22_Text.l0 k1 l0 (x3_1 ++ t160) (wrap64 (x4_1 + 1))) else (none))) else (some (⟨#[]⟩ : ByteArray))) = some r := H
     have A4 := Aside0.mk A40
     clear A40
     by_cases c5 : t158 = true
     ·subst c5
      have H1 : ((supercargoref22_Line.f k1 ((rd_T34 l0 x4_1).f0) ((rd_T34 l0 x4_1).f1) ((rd_T34 l0 x4_1).f2) ((rd_T34 l0 x4_1).f3)).bind fun t160 => (if x3_1.size + t160.size ≤ 9223372036854775807 then (supercargoref22_Text.l0 k1 l0 (x3_1 ++ t160) (wrap64 (x4_1 + 1))) else (none))) = some r := by rw [if_pos rfl] at H; exact H
      clear H
      have H := H1
      clear H1
      replace H := Option.bind_eq_some_iff.mp H
      obtain ⟨t160, A60, H⟩ := H
      replace H : (if x3_1.size + t160.size ≤ 9223372036854775807 then (supercargoref22_Text.l0 k1 l0 (x3_1 ++ t160) (wrap64 (x4_1 + 1))) else (none)) = some r := H
      have A6 := Aside0.mk A60
      clear A60
      by_cases c7 : x3_1.size + t160.size ≤ 9223372036854775807
      ·rw [if_pos c7] at H
       have c7b0 := eq_true c7
       have c7b1 : decide (x3_1.size + t160.size ≤ 9223372036854775807) = true := decide_eq_true c7
       try have c7b2 : (9223372036854775807 < x3_1.size + t160.size) = False := eq_false (Nat.not_lt.2 c7)
       have H' := Aside0.mk H
       clear H
       have p157 : 0 ≤ (x4_1 : Int) := of_decide_eq_true (by first | (with_reducible assumption) | assumption)
       have q157 : x4_1 < (l0.length : Int) := of_decide_eq_true (by first | (with_reducible assumption) | assumption)
       obtain ⟨ad157, e157, hx157_0, hx157_1, hx157_2, hx157_3⟩ := at_T34 HR0.out x4_1 p157 q157
       cases e157
       replace hx157_0 := (HB.out.cell (World.block_lt_of_cell? w _ hx157_0)).trans hx157_0
       replace hx157_1 := (HB.out.cell (World.block_lt_of_cell? w _ hx157_1)).trans hx157_1
       replace hx157_2 := (HB.out.cell (World.block_lt_of_cell? w _ hx157_2)).trans hx157_2
       replace hx157_3 := (HB.out.cell (World.block_lt_of_cell? w _ hx157_3)).trans hx157_3
       replace p157 := eq_true p157
       replace q157 := eq_true q157
       go_wp2_with (first | ((with_reducible refine gate_callee (f := 17) rfl ?_); refine goesL_ (some 15) rfl rfl Tryd.func17 (by kernel_rfl) rfl #[.agg #[.string ((rd_T34 l0 x4_1).f0), .string ((rd_T34 l0 x4_1).f1), .int .i64 ((rd_T34 l0 x4_1).f2), .int .i64 ((rd_T34 l0 x4_1).f3)]] rfl (by (try simp only [List.map_toArray, List.map_cons, List.map_nil]); first | done | rfl | (simp only [List.length_drop, List.length_take]; rfl)) ?_; (with_reducible refine (supercargoref22_Right.calls k1 ((rd_T34 l0 x4_1).f0) ((rd_T34 l0 x4_1).f1) ((rd_T34 l0 x4_1).f2) ((rd_T34 l0 x4_1).f3) true _ A4.out).mono ?_); rintro e w8 ⟨rfl, hb⟩; refine ⟨_, rfl, ?_⟩; have n0_ := Aside0.mk (below_step (by repeat (first | (with_reducible first | exact HB.out | apply below_alloc | apply pw_below_drewN | apply below_drew1) | exact HB.out)) hb); clear HB; have HB := n0_; clear n0_; (try clear hb); (try clear hb2); (try clear hk); (try clear hi); have p159 : 0 ≤ (x4_1 : Int) := of_decide_eq_true (by first | (with_reducible assumption) | assumption); have q159 : x4_1 < (l0.length : Int) := of_decide_eq_true (by first | (with_reducible assumption) | assumption); obtain ⟨ad159, e159, hx159_0, hx159_1, hx159_2, hx159_3⟩ := at_T34 HR0.out x4_1 p159 q159; obtain rfl : ad157 = ad159 := (by injection e159); replace hx159_0 := (HB.out.cell (World.block_lt_of_cell? w _ hx159_0)).trans hx159_0; replace hx159_1 := (HB.out.cell (World.block_lt_of_cell? w _ hx159_1)).trans hx159_1; replace hx159_2 := (HB.out.cell (World.block_lt_of_cell? w _ hx159_2)).trans hx159_2; replace hx159_3 := (HB.out.cell (World.block_lt_of_cell? w _ hx159_3)).trans hx159_3; replace p159 := eq_true p159; replace q159 := eq_true q159) | ((with_reducible refine gate_callee (f := 18) rfl ?_); refine goesL_ (some 22) rfl rfl Tryd.func18 (by kernel_rfl) rfl #[.agg #[.string ((rd_T34 l0 x4_1).f0), .string ((rd_T34 l0 x4_1).f1), .int .i64 ((rd_T34 l0 x4_1).f2), .int .i64 ((rd_T34 l0 x4_1).f3)]] rfl (by (try simp only [List.map_toArray, List.map_cons, List.map_nil]); first | done | rfl | (simp only [List.length_drop, List.length_take]; rfl)) ?_; (with_reducible refine (supercargoref22_Line.calls k1 ((rd_T34 l0 x4_1).f0) ((rd_T34 l0 x4_1).f1) ((rd_T34 l0 x4_1).f2) ((rd_T34 l0 x4_1).f3) t160 _ A6.out).mono ?_); rintro e w9 ⟨rfl, hb⟩; refine ⟨_, rfl, ?_⟩; have n0_ := Aside0.mk (below_step (by repeat (first | (with_reducible first | exact HB.out | apply below_alloc | apply pw_below_drewN | apply below_drew1) | exact HB.out)) hb); clear HB; have HB := n0_; clear n0_; (try clear hb); (try clear hb2); (try clear hk); (try clear hi)))
       go_roundg k1
       case measure => have := HK1.out; omega
       case rel => exact ⟨(x3_1 ++ t160), (wrap64 (x4_1 + 1)), (by first | rfl | (simp; done) | (simp [*]; done)), (by first | rfl | (simp; done) | (simp [*]; done)), H', ⟨by have := HK1.out; omega⟩, ⟨by repeat (first | (with_reducible first | exact HB.out | apply below_alloc | apply pw_below_drewN | apply below_drew1) | exact HB.out)⟩⟩
      ·rw [if_neg c7] at H
       exact absurd H (by simp)
     ·replace c5 := Bool.eq_false_iff.mpr c5
      subst c5
      have H1 : (some (⟨#[]⟩ : ByteArray)) = some r := by rw [if_neg (show ¬ (false = true) by decide)] at H; exact H
      clear H
      have H := H1
      clear H1
      obtain rfl := Option.some.inj H
      have p157 : 0 ≤ (x4_1 : Int) := of_decide_eq_true (by first | (with_reducible assumption) | assumption)
      have q157 : x4_1 < (l0.length : Int) := of_decide_eq_true (by first | (with_reducible assumption) | assumption)
      obtain ⟨ad157, e157, hx157_0, hx157_1, hx157_2, hx157_3⟩ := at_T34 HR0.out x4_1 p157 q157
      cases e157
      replace hx157_0 := (HB.out.cell (World.block_lt_of_cell? w _ hx157_0)).trans hx157_0
      replace hx157_1 := (HB.out.cell (World.block_lt_of_cell? w _ hx157_1)).trans hx157_1
      replace hx157_2 := (HB.out.cell (World.block_lt_of_cell? w _ hx157_2)).trans hx157_2
      replace hx157_3 := (HB.out.cell (World.block_lt_of_cell? w _ hx157_3)).trans hx157_3
      replace p157 := eq_true p157
      replace q157 := eq_true q157
      go_wp2_with (first | ((with_reducible refine gate_callee (f := 17) rfl ?_); refine goesL_ (some 15) rfl rfl Tryd.func17 (by kernel_rfl) rfl #[.agg #[.string ((rd_T34 l0 x4_1).f0), .string ((rd_T34 l0 x4_1).f1), .int .i64 ((rd_T34 l0 x4_1).f2), .int .i64 ((rd_T34 l0 x4_1).f3)]] rfl (by (try simp only [List.map_toArray, List.map_cons, List.map_nil]); first | done | rfl | (simp only [List.length_drop, List.length_take]; rfl)) ?_; (with_reducible refine (supercargoref22_Right.calls k1 ((rd_T34 l0 x4_1).f0) ((rd_T34 l0 x4_1).f1) ((rd_T34 l0 x4_1).f2) ((rd_T34 l0 x4_1).f3) false _ A4.out).mono ?_); rintro e w10 ⟨rfl, hb⟩; refine ⟨_, rfl, ?_⟩; have n0_ := Aside0.mk (below_step (by repeat (first | (with_reducible first | exact HB.out | apply below_alloc | apply pw_below_drewN | apply below_drew1) | exact HB.out)) hb); clear HB; have HB := n0_; clear n0_; (try clear hb); (try clear hb2); (try clear hk); (try clear hi)))
      go_ret
      exact ⟨by first | rfl | (simp [errW_none, errW_some] <;> rfl) | (simp [*, errW_none, errW_some] <;> rfl), by repeat (first | (with_reducible first | exact HB.out | apply below_alloc | apply pw_below_drewN | apply below_drew1) | exact HB.out)⟩
    ·rw [if_neg c3] at H
     exact absurd H (by simp)
   ·rw [if_neg c2] at H
    have c2b0 : decide (x4_1 < (l0.length : Int)) = false := decide_eq_false c2
    clear c2
    obtain rfl := Option.some.inj H
    go_wp2
    go_ret
    exact ⟨by first | rfl | (simp [errW_none, errW_some] <;> rfl) | (simp [*, errW_none, errW_some] <;> rfl), by repeat (first | (with_reducible first | exact HB.out | apply below_alloc | apply pw_below_drewN | apply below_drew1) | exact HB.out)⟩

end Go.Proofs.YtjmbglgchmhahaaDoor.P
