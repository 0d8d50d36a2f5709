-- Written by the session's own program xprint.py, which runs the kit's print over functions given by hand.
import Derived.Test.YtpmclpblnhjjeaaDoorPx0
import Derived.Test.YtpmclpblnhjjeaaDoorPx1
import Derived.Test.YtpmclpblnhjjeaaDoorPx3
import Derived.Test.YtpmclpblnhjjeaaDoorPx6
import Derived.Test.YtpmclpblnhjjeaaDoorPx7
namespace Go.Proofs.YtpmclpblnhjjeaaDoor.P
open Go.RowKit Go.Proofs.YtpmclpblnhjjeaaDoorW.PrintWords Go.Proofs.YtpmclpblnhjjeaaDoorW.PrintLast Go.Proofs.YtpmclpblnhjjeaaDoorW.PrintMore
attribute [local go_sem] max2_int min2_int max_two min_two max_three min_three max_four min_four   -- for this text's walks alone
set_option linter.unusedVariables false
set_option linter.unusedSimpArgs false

/-! ### day_digits: function 47 -/
def day_digits.l0 : Nat → Int → ByteArray → Option (ByteArray)
  | 0, _, _ => none
  | k + 1, x1, x5 => if (x5.size : Int) < x1 then (if 1 + x5.size ≤ 9223372036854775807 then (day_digits.l0 k x1 ((⟨#[48]⟩ : ByteArray) ++ x5)) else (none)) else (some x5)
def day_digits.f (k : Nat) (a0 : Int) (a1 : Int) : Option (ByteArray) := (strconv_Itoa.f a0).bind fun t162 => (day_digits.l0 k a1 t162)
theorem day_digits.mono_l : ∀ k, (∀ y0 y1, LeO (day_digits.l0 k y0 y1) (day_digits.l0 (k + 1) y0 y1))
  | 0 => fun _ _ r h => by simp [day_digits.l0] at h
  | k + 1 => by
    have ih0 := day_digits.mono_l k
    · intro y0 y1
      unfold day_digits.l0
      repeat' first
      | (with_reducible exact ih0 _ _)
      | (with_reducible exact LeO.refl _)
      | (with_reducible exact LeO.none _)
      | (with_reducible refine LeO.ite ?_ ?_)
      | (with_reducible refine LeO.bind ?_ (fun _ => ?_))
      | exact ih0 _ _
      | exact LeO.none _
      | refine LeO.ite ?_ ?_
      | refine LeO.bind ?_ (fun _ => ?_)
theorem day_digits.mono : ∀ a0 a1 k, LeO (day_digits.f k a0 a1) (day_digits.f (k + 1) a0 a1) := by
  intro a0 a1 k
  have ih0 := day_digits.mono_l k
  unfold day_digits.f
  repeat' first
      | (with_reducible exact ih0 _ _)
      | (with_reducible exact LeO.refl _)
      | (with_reducible exact LeO.none _)
      | (with_reducible refine LeO.ite ?_ ?_)
      | (with_reducible refine LeO.bind ?_ (fun _ => ?_))
      | exact ih0 _ _
      | exact LeO.none _
      | refine LeO.ite ?_ ?_
      | refine LeO.bind ?_ (fun _ => ?_)
set_option maxHeartbeats 8000000 in
set_option maxRecDepth 100000 in
theorem day_digits.calls (k : Nat) (a0 : Int) (a1 : Int) (r : ByteArray) (w : World) (hT : Tabs w) (h : day_digits.f k a0 a1 = some r) :
    Calls Tryd.prog 47 #[.int .i64 a0, .int .i64 a1] w fun e w' => e = .returned (.string r) ∧ Below w.heap.size w w' := by
  have HT := Aside0.mk hT
  clear hT
  have HB := Aside0.mk (Below.refl w.heap.size w)
  have H : ((strconv_Itoa.f a0).bind fun t162 => (day_digits.l0 k a1 t162)) = some r := h
  clear h
  replace H := Option.bind_eq_some_iff.mp H
  obtain ⟨t162, A30, H⟩ := H
  replace H : (day_digits.l0 k a1 t162) = some r := H
  have A3 := Aside0.mk A30
  clear A30
  have H' := Aside0.mk H
  clear H
  go_enter Tryd.func47, Tryd.ntmps47
  go_wp2_with (first | ((with_reducible refine gate_callee (f := 58) rfl ?_); refine goesL_ (some 7) rfl rfl Tryd.func58 (by kernel_rfl) rfl #[.int .i64 a0] rfl (by (try simp only [List.map_toArray, List.map_cons, List.map_nil]); first | done | rfl | (simp only [List.length_drop, List.length_take]; rfl)) ?_; (with_reducible refine (strconv_Itoa.calls a0 t162 _ ?side1 A3.out).mono ?_); (case side1 => repeat (first | exact HT.out | exact Tabs_below HT.out (by repeat (first | (with_reducible first | exact HB.out | apply below_alloc | apply pw_below_drewN | apply below_drew1) | exact HB.out)) | (with_reducible refine Tabs_drewN ?_ _) | (with_reducible refine Tabs_drew ?_))); rintro e w4 ⟨rfl, hb⟩; refine ⟨_, rfl, ?_⟩; have n0_ := Aside0.mk (below_step (by repeat (first | (with_reducible first | exact HB.out | apply below_alloc | apply pw_below_drewN | apply below_drew1) | exact HB.out)) hb); clear HB; have HB := n0_; clear n0_; (try clear hb); (try clear hb2); (try clear hk); (try clear hi)))
  go_loopg [5] k (fun kq v5 w' => ∃ (x5_1 : ByteArray), v5 = .string x5_1 ∧ Aside0 (day_digits.l0 kq a1 x5_1 = some r) ∧ Aside0 (kq ≤ k) ∧ Aside0 (Below w.heap.size w w'))
  case atStart => exact ⟨(t162), (by first | rfl | (simp; done) | (simp [*]; done)), H', ⟨Nat.le_refl _⟩, ⟨by repeat (first | (with_reducible first | exact HB.out | apply below_alloc | apply pw_below_drewN | apply below_drew1) | exact HB.out)⟩⟩
  case round =>
    clear H'
    try clear p2
    try clear c4
    obtain ⟨x5_1, rfl, HA, HK1, HB⟩ := hrel
    cases gk with
    | zero => exact absurd HA.out (by simp [day_digits.l0])
    | succ k1 =>
      have H := HA.out
      clear HA
      simp only [day_digits.l0] at H
      by_cases c5 : (x5_1.size : Int) < a1
      · rw [if_pos c5] at H
        have c5b0 : decide ((x5_1.size : Int) < a1) = true := decide_eq_true c5
        clear c5
        by_cases c6 : 1 + x5_1.size ≤ 9223372036854775807
        · rw [if_pos c6] at H
          have c6b0 := eq_true c6
          have c6b1 : decide (1 + x5_1.size ≤ 9223372036854775807) = true := decide_eq_true c6
          try have c6b2 : (9223372036854775807 < 1 + x5_1.size) = False := eq_false (Nat.not_lt.2 c6)
          have H' := Aside0.mk H
          clear H
          go_wp2
          go_roundg k1
          case measure => have := HK1.out; omega
          case rel => exact ⟨((⟨#[48]⟩ : ByteArray) ++ x5_1), (by first | rfl | (simp; done) | (simp [*]; done)), H', ⟨by have := HK1.out; omega⟩, ⟨by repeat (first | (with_reducible first | exact HB.out | apply below_alloc | apply pw_below_drewN | apply below_drew1) | exact HB.out)⟩⟩
        · rw [if_neg c6] at H
          exact absurd H (by simp)
      · rw [if_neg c5] at H
        have c5b0 : decide ((x5_1.size : Int) < a1) = false := decide_eq_false c5
        clear c5
        obtain rfl := Option.some.inj H
        go_wp2
        go_ret
        exact ⟨by first | rfl | (simp [errW_none, errW_some] <;> rfl) | (simp [*, errW_none, errW_some] <;> rfl), by repeat (first | (with_reducible first | exact HB.out | apply below_alloc | apply pw_below_drewN | apply below_drew1) | exact HB.out)⟩

/-! ### day_Text: function 29 -/
def day_Text.f (k : Nat) (a0 : Int) : Option (ByteArray) := (day_is.f a0).bind fun t163 => (if t163 = true then ((day_Month.f k a0).bind fun bt164 => ((day_digits.f k bt164.1 4).bind fun t167 => (if t167.size + 1 ≤ 9223372036854775807 then ((day_digits.f k bt164.2.1 2).bind fun t168 => (if (t167 ++ (⟨#[45]⟩ : ByteArray)).size + t168.size ≤ 9223372036854775807 then (if ((t167 ++ (⟨#[45]⟩ : ByteArray)) ++ t168).size + 1 ≤ 9223372036854775807 then ((day_digits.f k bt164.2.2 2).bind fun t169 => (if (((t167 ++ (⟨#[45]⟩ : ByteArray)) ++ t168) ++ (⟨#[45]⟩ : ByteArray)).size + t169.size ≤ 9223372036854775807 then (some ((((t167 ++ (⟨#[45]⟩ : ByteArray)) ++ t168) ++ (⟨#[45]⟩ : ByteArray)) ++ t169)) else (none))) else (none)) else (none))) else (none)))) else (some (⟨#[]⟩ : ByteArray)))
theorem day_Text.mono : ∀ a0 k, LeO (day_Text.f k a0) (day_Text.f (k + 1) a0) := by
  intro a0 k
  unfold day_Text.f
  repeat' first
      | (with_reducible exact day_Month.mono _ _)
      | (with_reducible exact day_digits.mono _ _ _)
      | (with_reducible exact LeO.refl _)
      | (with_reducible exact LeO.none _)
      | (with_reducible refine LeO.ite ?_ ?_)
      | (with_reducible refine LeO.bind ?_ (fun _ => ?_))
      | exact day_Month.mono _ _
      | exact day_digits.mono _ _ _
      | exact LeO.none _
      | refine LeO.ite ?_ ?_
      | refine LeO.bind ?_ (fun _ => ?_)
set_option maxHeartbeats 8000000 in
set_option maxRecDepth 100000 in
theorem day_Text.calls (k : Nat) (a0 : Int) (r : ByteArray) (w : World) (hT : Tabs w) (h : day_Text.f k a0 = some r) :
    Calls Tryd.prog 29 #[.int .i64 a0] w fun e w' => e = .returned (.string r) ∧ Below w.heap.size w w' := by
  have HT := Aside0.mk hT
  clear hT
  have HB := Aside0.mk (Below.refl w.heap.size w)
  have H : ((day_is.f a0).bind fun t163 => (if t163 = true then ((day_Month.f k a0).bind fun bt164 => ((day_digits.f k bt164.1 4).bind fun t167 => (if t167.size + 1 ≤ 9223372036854775807 then ((day_digits.f k bt164.2.1 2).bind fun t168 => (if (t167 ++ (⟨#[45]⟩ : ByteArray)).size + t168.size ≤ 9223372036854775807 then (if ((t167 ++ (⟨#[45]⟩ : ByteArray)) ++ t168).size + 1 ≤ 9223372036854775807 then ((day_digits.f k bt164.2.2 2).bind fun t169 => (if (((t167 ++ (⟨#[45]⟩ : ByteArray)) ++ t168) ++ (⟨#[45]⟩ : ByteArray)).size + t169.size ≤ 9223372036854775807 then (some ((((t167 ++ (⟨#[45]⟩ : ByteArray)) ++ t168) ++ (⟨#[45]⟩ : ByteArray)) ++ t169)) else (none))) else (none)) else (none))) else (none)))) else (some (⟨#[]⟩ : ByteArray)))) = some r := h
  clear h
  replace H := Option.bind_eq_some_iff.mp H
  obtain ⟨t163, A20, H⟩ := H
  replace H : (if t163 = true then ((day_Month.f k a0).bind fun bt164 => ((day_digits.f k bt164.1 4).bind fun t167 => (if t167.size + 1 ≤ 9223372036854775807 then ((day_digits.f k bt164.2.1 2).bind fun t168 => (if (t167 ++ (⟨#[45]⟩ : ByteArray)).size + t168.size ≤ 9223372036854775807 then (if ((t167 ++ (⟨#[45]⟩ : ByteArray)) ++ t168).size + 1 ≤ 9223372036854775807 then ((day_digits.f k bt164.2.2 2).bind fun t169 => (if (((t167 ++ (⟨#[45]⟩ : ByteArray)) ++ t168) ++ (⟨#[45]⟩ : ByteArray)).size + t169.size ≤ 9223372036854775807 then (some ((((t167 ++ (⟨#[45]⟩ : ByteArray)) ++ t168) ++ (⟨#[45]⟩ : ByteArray)) ++ t169)) else (none))) else (none)) else (none))) else (none)))) else (some (⟨#[]⟩ : ByteArray))) = some r := H
  have A2 := Aside0.mk A20
  clear A20
  by_cases c3 : t163 = true
  · subst c3
    have H1 : ((day_Month.f k a0).bind fun bt164 => ((day_digits.f k bt164.1 4).bind fun t167 => (if t167.size + 1 ≤ 9223372036854775807 then ((day_digits.f k bt164.2.1 2).bind fun t168 => (if (t167 ++ (⟨#[45]⟩ : ByteArray)).size + t168.size ≤ 9223372036854775807 then (if ((t167 ++ (⟨#[45]⟩ : ByteArray)) ++ t168).size + 1 ≤ 9223372036854775807 then ((day_digits.f k bt164.2.2 2).bind fun t169 => (if (((t167 ++ (⟨#[45]⟩ : ByteArray)) ++ t168) ++ (⟨#[45]⟩ : ByteArray)).size + t169.size ≤ 9223372036854775807 then (some ((((t167 ++ (⟨#[45]⟩ : ByteArray)) ++ t168) ++ (⟨#[45]⟩ : ByteArray)) ++ t169)) else (none))) else (none)) else (none))) else (none)))) = some r := by rw [if_pos rfl] at H; exact H
    clear H
    have H := H1
    clear H1
    replace H := Option.bind_eq_some_iff.mp H
    obtain ⟨⟨t164, t165, t166⟩, A40, H⟩ := H
    replace H : ((day_digits.f k t164 4).bind fun t167 => (if t167.size + 1 ≤ 9223372036854775807 then ((day_digits.f k t165 2).bind fun t168 => (if (t167 ++ (⟨#[45]⟩ : ByteArray)).size + t168.size ≤ 9223372036854775807 then (if ((t167 ++ (⟨#[45]⟩ : ByteArray)) ++ t168).size + 1 ≤ 9223372036854775807 then ((day_digits.f k t166 2).bind fun t169 => (if (((t167 ++ (⟨#[45]⟩ : ByteArray)) ++ t168) ++ (⟨#[45]⟩ : ByteArray)).size + t169.size ≤ 9223372036854775807 then (some ((((t167 ++ (⟨#[45]⟩ : ByteArray)) ++ t168) ++ (⟨#[45]⟩ : ByteArray)) ++ t169)) else (none))) else (none)) else (none))) else (none))) = some r := H
    have A4 := Aside0.mk A40
    clear A40
    replace H := Option.bind_eq_some_iff.mp H
    obtain ⟨t167, A50, H⟩ := H
    replace H : (if t167.size + 1 ≤ 9223372036854775807 then ((day_digits.f k t165 2).bind fun t168 => (if (t167 ++ (⟨#[45]⟩ : ByteArray)).size + t168.size ≤ 9223372036854775807 then (if ((t167 ++ (⟨#[45]⟩ : ByteArray)) ++ t168).size + 1 ≤ 9223372036854775807 then ((day_digits.f k t166 2).bind fun t169 => (if (((t167 ++ (⟨#[45]⟩ : ByteArray)) ++ t168) ++ (⟨#[45]⟩ : ByteArray)).size + t169.size ≤ 9223372036854775807 then (some ((((t167 ++ (⟨#[45]⟩ : ByteArray)) ++ t168) ++ (⟨#[45]⟩ : ByteArray)) ++ t169)) else (none))) else (none)) else (none))) else (none)) = some r := H
    have A5 := Aside0.mk A50
    clear A50
    by_cases c6 : t167.size + 1 ≤ 9223372036854775807
    · rw [if_pos c6] at H
      have c6b0 := eq_true c6
      have c6b1 : decide (t167.size + 1 ≤ 9223372036854775807) = true := decide_eq_true c6
      try have c6b2 : (9223372036854775807 < t167.size + 1) = False := eq_false (Nat.not_lt.2 c6)
      replace H := Option.bind_eq_some_iff.mp H
      obtain ⟨t168, A70, H⟩ := H
      replace H : (if (t167 ++ (⟨#[45]⟩ : ByteArray)).size + t168.size ≤ 9223372036854775807 then (if ((t167 ++ (⟨#[45]⟩ : ByteArray)) ++ t168).size + 1 ≤ 9223372036854775807 then ((day_digits.f k t166 2).bind fun t169 => (if (((t167 ++ (⟨#[45]⟩ : ByteArray)) ++ t168) ++ (⟨#[45]⟩ : ByteArray)).size + t169.size ≤ 9223372036854775807 then (some ((((t167 ++ (⟨#[45]⟩ : ByteArray)) ++ t168) ++ (⟨#[45]⟩ : ByteArray)) ++ t169)) else (none))) else (none)) else (none)) = some r := H
      have A7 := Aside0.mk A70
      clear A70
      by_cases c8 : (t167 ++ (⟨#[45]⟩ : ByteArray)).size + t168.size ≤ 9223372036854775807
      · rw [if_pos c8] at H
        have c8b0 := eq_true c8
        have c8b1 : decide ((t167 ++ (⟨#[45]⟩ : ByteArray)).size + t168.size ≤ 9223372036854775807) = true := decide_eq_true c8
        try have c8b2 : (9223372036854775807 < (t167 ++ (⟨#[45]⟩ : ByteArray)).size + t168.size) = False := eq_false (Nat.not_lt.2 c8)
        try (have c8b3 := c8; simp [ByteArray.size_append, PrintScope.size_mk] at c8b3)
        by_cases c9 : ((t167 ++ (⟨#[45]⟩ : ByteArray)) ++ t168).size + 1 ≤ 9223372036854775807
        · rw [if_pos c9] at H
          have c9b0 := eq_true c9
          have c9b1 : decide (((t167 ++ (⟨#[45]⟩ : ByteArray)) ++ t168).size + 1 ≤ 9223372036854775807) = true := decide_eq_true c9
          try have c9b2 : (9223372036854775807 < ((t167 ++ (⟨#[45]⟩ : ByteArray)) ++ t168).size + 1) = False := eq_false (Nat.not_lt.2 c9)
          try (have c9b3 := c9; simp [ByteArray.size_append, PrintScope.size_mk] at c9b3)
          replace H := Option.bind_eq_some_iff.mp H
          obtain ⟨t169, A100, H⟩ := H
          replace H : (if (((t167 ++ (⟨#[45]⟩ : ByteArray)) ++ t168) ++ (⟨#[45]⟩ : ByteArray)).size + t169.size ≤ 9223372036854775807 then (some ((((t167 ++ (⟨#[45]⟩ : ByteArray)) ++ t168) ++ (⟨#[45]⟩ : ByteArray)) ++ t169)) else (none)) = some r := H
          have A10 := Aside0.mk A100
          clear A100
          by_cases c11 : (((t167 ++ (⟨#[45]⟩ : ByteArray)) ++ t168) ++ (⟨#[45]⟩ : ByteArray)).size + t169.size ≤ 9223372036854775807
          · rw [if_pos c11] at H
            have c11b0 := eq_true c11
            have c11b1 : decide ((((t167 ++ (⟨#[45]⟩ : ByteArray)) ++ t168) ++ (⟨#[45]⟩ : ByteArray)).size + t169.size ≤ 9223372036854775807) = true := decide_eq_true c11
            try have c11b2 : (9223372036854775807 < (((t167 ++ (⟨#[45]⟩ : ByteArray)) ++ t168) ++ (⟨#[45]⟩ : ByteArray)).size + t169.size) = False := eq_false (Nat.not_lt.2 c11)
            try (have c11b3 := c11; simp [ByteArray.size_append, PrintScope.size_mk] at c11b3)
            obtain rfl := Option.some.inj H
            go_enter Tryd.func29, Tryd.ntmps29
            go_wp2_with (first | ((with_reducible refine gate_callee (f := 33) rfl ?_); refine goesL_ (some 7) rfl rfl Tryd.func33 (by kernel_rfl) rfl #[.int .i64 a0] rfl (by (try simp only [List.map_toArray, List.map_cons, List.map_nil]); first | done | rfl | (simp only [List.length_drop, List.length_take]; rfl)) ?_; (with_reducible refine (day_is.calls a0 true _ A2.out).mono ?_); rintro e w' ⟨rfl, ⟨nd, rfl⟩⟩; refine ⟨_, rfl, ?_⟩) | ((with_reducible refine gate_callee (f := 11) rfl ?_); refine goesL_ (some 11) rfl rfl Tryd.func11 (by kernel_rfl) rfl #[.int .i64 a0] rfl (by (try simp only [List.map_toArray, List.map_cons, List.map_nil]); first | done | rfl | (simp only [List.length_drop, List.length_take]; rfl)) ?_; (with_reducible refine (day_Month.calls k a0 t164 t165 t166 _ ?side1 A4.out).mono ?_); (case side1 => repeat (first | exact HT.out | exact Tabs_below HT.out (by repeat (first | (with_reducible first | exact HB.out | apply below_alloc | apply pw_below_drewN | apply below_drew1) | exact HB.out)) | (with_reducible refine Tabs_drewN ?_ _) | (with_reducible refine Tabs_drew ?_))); rintro e w' ⟨rfl, ⟨nd, rfl⟩⟩; refine ⟨_, rfl, ?_⟩) | ((with_reducible refine gate_callee (f := 47) rfl ?_); refine goesL_ (some 16) rfl rfl Tryd.func47 (by kernel_rfl) rfl #[.int .i64 t164, .int .i64 4] rfl (by (try simp only [List.map_toArray, List.map_cons, List.map_nil]); first | done | rfl | (simp only [List.length_drop, List.length_take]; rfl)) ?_; (with_reducible refine (day_digits.calls k t164 4 t167 _ ?side1 A5.out).mono ?_); (case side1 => repeat (first | exact HT.out | exact Tabs_below HT.out (by repeat (first | (with_reducible first | exact HB.out | apply below_alloc | apply pw_below_drewN | apply below_drew1) | exact HB.out)) | (with_reducible refine Tabs_drewN ?_ _) | (with_reducible refine Tabs_drew ?_))); rintro e w12 ⟨rfl, hb⟩; refine ⟨_, rfl, ?_⟩; have n0_ := Aside0.mk (below_step (by repeat (first | (with_reducible first | exact HB.out | apply below_alloc | apply pw_below_drewN | apply below_drew1) | exact HB.out)) hb); clear HB; have HB := n0_; clear n0_; (try clear hb); (try clear hb2); (try clear hk); (try clear hi)) | ((with_reducible refine gate_callee (f := 47) rfl ?_); refine goesL_ (some 19) rfl rfl Tryd.func47 (by kernel_rfl) rfl #[.int .i64 t165, .int .i64 2] rfl (by (try simp only [List.map_toArray, List.map_cons, List.map_nil]); first | done | rfl | (simp only [List.length_drop, List.length_take]; rfl)) ?_; (with_reducible refine (day_digits.calls k t165 2 t168 _ ?side1 A7.out).mono ?_); (case side1 => repeat (first | exact HT.out | exact Tabs_below HT.out (by repeat (first | (with_reducible first | exact HB.out | apply below_alloc | apply pw_below_drewN | apply below_drew1) | exact HB.out)) | (with_reducible refine Tabs_drewN ?_ _) | (with_reducible refine Tabs_drew ?_))); rintro e w13 ⟨rfl, hb⟩; refine ⟨_, rfl, ?_⟩; have n0_ := Aside0.mk (below_step (by repeat (first | (with_reducible first | exact HB.out | apply below_alloc | apply pw_below_drewN | apply below_drew1) | exact HB.out)) hb); clear HB; have HB := n0_; clear n0_; (try clear hb); (try clear hb2); (try clear hk); (try clear hi)) | ((with_reducible refine gate_callee (f := 47) rfl ?_); refine goesL_ (some 23) rfl rfl Tryd.func47 (by kernel_rfl) rfl #[.int .i64 t166, .int .i64 2] rfl (by (try simp only [List.map_toArray, List.map_cons, List.map_nil]); first | done | rfl | (simp only [List.length_drop, List.length_take]; rfl)) ?_; (with_reducible refine (day_digits.calls k t166 2 t169 _ ?side1 A10.out).mono ?_); (case side1 => repeat (first | exact HT.out | exact Tabs_below HT.out (by repeat (first | (with_reducible first | exact HB.out | apply below_alloc | apply pw_below_drewN | apply below_drew1) | exact HB.out)) | (with_reducible refine Tabs_drewN ?_ _) | (with_reducible refine Tabs_drew ?_))); rintro e w14 ⟨rfl, hb⟩; refine ⟨_, rfl, ?_⟩; have n0_ := Aside0.mk (below_step (by repeat (first | (with_reducible first | exact HB.out | apply below_alloc | apply pw_below_drewN | apply below_drew1) | exact HB.out)) hb); clear HB; have HB := n0_; clear n0_; (try clear hb); (try clear hb2); (try clear hk); (try clear hi)))
            go_ret
            exact ⟨by first | rfl | (simp [errW_none, errW_some] <;> rfl) | (simp [*, errW_none, errW_some] <;> rfl), by repeat (first | (with_reducible first | exact HB.out | apply below_alloc | apply pw_below_drewN | apply below_drew1) | exact HB.out)⟩
          · rw [if_neg c11] at H
            exact absurd H (by simp)
        · rw [if_neg c9] at H
          exact absurd H (by simp)
      · rw [if_neg c8] at H
        exact absurd H (by simp)
    · rw [if_neg c6] at H
      exact absurd H (by simp)
  · replace c3 := Bool.eq_false_iff.mpr c3
    subst c3
    have H1 : (some (⟨#[]⟩ : ByteArray)) = some r := by rw [if_neg (show ¬ (false = true) by decide)] at H; exact H
    clear H
    have H := H1
    clear H1
    obtain rfl := Option.some.inj H
    go_enter Tryd.func29, Tryd.ntmps29
    go_wp2_with (first | ((with_reducible refine gate_callee (f := 33) rfl ?_); refine goesL_ (some 7) rfl rfl Tryd.func33 (by kernel_rfl) rfl #[.int .i64 a0] rfl (by (try simp only [List.map_toArray, List.map_cons, List.map_nil]); first | done | rfl | (simp only [List.length_drop, List.length_take]; rfl)) ?_; (with_reducible refine (day_is.calls a0 false _ A2.out).mono ?_); rintro e w' ⟨rfl, ⟨nd, rfl⟩⟩; refine ⟨_, rfl, ?_⟩))
    go_ret
    exact ⟨by first | rfl | (simp [errW_none, errW_some] <;> rfl) | (simp [*, errW_none, errW_some] <;> rfl), by repeat (first | (with_reducible first | exact HB.out | apply below_alloc | apply pw_below_drewN | apply below_drew1) | exact HB.out)⟩

/-! ### supercargolaw02_awake: function 10 -/
def supercargolaw02_awake.j0 : Nat → Bool → Option (Bool)
  | 0, _ => none
  | k + 1, x0 => some x0
def supercargolaw02_awake.f (k : Nat)  : Option (Bool) := (some (([5, 6] : List Int) : List Int)).bind fun y170 => ((day_Next.f k y170 ([] : List Int) 5).bind fun bt174 => ((day_Add.f k y170 ([] : List Int) 4 1).bind fun bt176 => ((day_Tenor.f k 30 1).bind fun bt178 => (if bt174.2 = true then (if bt174.1 = 7 then (if bt176.2 = true then (if bt176.1 = 7 then (if bt178.2 = true then (if bt178.1 = 59 then ((day_Text.f k 59).bind fun t180 => (supercargolaw02_awake.j0 k (t180.toList == ([50, 48, 48, 48, 45, 48, 50, 45, 50, 57] : List UInt8)))) else (supercargolaw02_awake.j0 k false)) else (supercargolaw02_awake.j0 k false)) else (supercargolaw02_awake.j0 k false)) else (supercargolaw02_awake.j0 k false)) else (supercargolaw02_awake.j0 k false)) else (supercargolaw02_awake.j0 k false)))))
theorem supercargolaw02_awake.mono_l : ∀ k, (∀ y0, LeO (supercargolaw02_awake.j0 k y0) (supercargolaw02_awake.j0 (k + 1) y0))
  | 0 => fun _ r h => by simp [supercargolaw02_awake.j0] at h
  | k + 1 => by
    have ih0 := supercargolaw02_awake.mono_l k
    · intro y0
      unfold supercargolaw02_awake.j0
      repeat' first
      | (with_reducible exact ih0 _)
      | (with_reducible exact day_Add.mono _ _ _ _ _)
      | (with_reducible exact day_Next.mono _ _ _ _)
      | (with_reducible exact day_Tenor.mono _ _ _)
      | (with_reducible exact day_Text.mono _ _)
      | (with_reducible exact LeO.refl _)
      | (with_reducible exact LeO.none _)
      | (with_reducible refine LeO.ite ?_ ?_)
      | (with_reducible refine LeO.bind ?_ (fun _ => ?_))
      | exact ih0 _
      | exact day_Add.mono _ _ _ _ _
      | exact day_Next.mono _ _ _ _
      | exact day_Tenor.mono _ _ _
      | exact day_Text.mono _ _
      | exact LeO.none _
      | refine LeO.ite ?_ ?_
      | refine LeO.bind ?_ (fun _ => ?_)
theorem supercargolaw02_awake.mono : ∀ k, LeO (supercargolaw02_awake.f k ) (supercargolaw02_awake.f (k + 1) ) := by
  intro  k
  have ih0 := supercargolaw02_awake.mono_l k
  unfold supercargolaw02_awake.f
  repeat' first
      | (with_reducible exact ih0 _)
      | (with_reducible exact day_Add.mono _ _ _ _ _)
      | (with_reducible exact day_Next.mono _ _ _ _)
      | (with_reducible exact day_Tenor.mono _ _ _)
      | (with_reducible exact day_Text.mono _ _)
      | (with_reducible exact LeO.refl _)
      | (with_reducible exact LeO.none _)
      | (with_reducible refine LeO.ite ?_ ?_)
      | (with_reducible refine LeO.bind ?_ (fun _ => ?_))
      | exact ih0 _
      | exact day_Add.mono _ _ _ _ _
      | exact day_Next.mono _ _ _ _
      | exact day_Tenor.mono _ _ _
      | exact day_Text.mono _ _
      | exact LeO.none _
      | refine LeO.ite ?_ ?_
      | refine LeO.bind ?_ (fun _ => ?_)
set_option maxHeartbeats 8000000 in
set_option maxRecDepth 100000 in
theorem supercargolaw02_awake.calls (k : Nat)  (r : Bool) (w : World) (hT : Tabs w) (h : supercargolaw02_awake.f k  = some r) :
    Calls Tryd.prog 10 #[] w fun e w' => e = .returned (.bool r) ∧ Below w.heap.size w w' := by
  have hu31 := Tryd.underlying31
  have HT := Aside0.mk hT
  clear hT
  have HB := Aside0.mk (Below.refl w.heap.size w)
  have H : ((some (([5, 6] : List Int) : List Int)).bind fun y170 => ((day_Next.f k y170 ([] : List Int) 5).bind fun bt174 => ((day_Add.f k y170 ([] : List Int) 4 1).bind fun bt176 => ((day_Tenor.f k 30 1).bind fun bt178 => (if bt174.2 = true then (if bt174.1 = 7 then (if bt176.2 = true then (if bt176.1 = 7 then (if bt178.2 = true then (if bt178.1 = 59 then ((day_Text.f k 59).bind fun t180 => (supercargolaw02_awake.j0 k (t180.toList == ([50, 48, 48, 48, 45, 48, 50, 45, 50, 57] : List UInt8)))) else (supercargolaw02_awake.j0 k false)) else (supercargolaw02_awake.j0 k false)) else (supercargolaw02_awake.j0 k false)) else (supercargolaw02_awake.j0 k false)) else (supercargolaw02_awake.j0 k false)) else (supercargolaw02_awake.j0 k false)))))) = some r := h
  clear h
  obtain ⟨y170, hy170⟩ : ∃ y_ : List Int, y_ = (([5, 6] : List Int)) := ⟨_, rfl⟩
  replace H : ((day_Next.f k y170 ([] : List Int) 5).bind fun bt174 => ((day_Add.f k y170 ([] : List Int) 4 1).bind fun bt176 => ((day_Tenor.f k 30 1).bind fun bt178 => (if bt174.2 = true then (if bt174.1 = 7 then (if bt176.2 = true then (if bt176.1 = 7 then (if bt178.2 = true then (if bt178.1 = 59 then ((day_Text.f k 59).bind fun t180 => (supercargolaw02_awake.j0 k (t180.toList == ([50, 48, 48, 48, 45, 48, 50, 45, 50, 57] : List UInt8)))) else (supercargolaw02_awake.j0 k false)) else (supercargolaw02_awake.j0 k false)) else (supercargolaw02_awake.j0 k false)) else (supercargolaw02_awake.j0 k false)) else (supercargolaw02_awake.j0 k false)) else (supercargolaw02_awake.j0 k false))))) = some r := by first | (rw [hy170]; with_reducible exact H) | (have H2_ := (Option.bind_some _ _).symm.trans H; rw [hy170]; with_reducible exact H2_) | (have H2_ := (Option.bind_some _ _).symm.trans H; with_reducible exact H2_) | with_reducible exact H | (rw [hy170]; exact H) | exact H
  have Ny170 := Aside0.mk hy170
  clear hy170
  replace H := Option.bind_eq_some_iff.mp H
  obtain ⟨⟨t174, t175⟩, A10, H⟩ := H
  replace H : ((day_Add.f k y170 ([] : List Int) 4 1).bind fun bt176 => ((day_Tenor.f k 30 1).bind fun bt178 => (if t175 = true then (if t174 = 7 then (if bt176.2 = true then (if bt176.1 = 7 then (if bt178.2 = true then (if bt178.1 = 59 then ((day_Text.f k 59).bind fun t180 => (supercargolaw02_awake.j0 k (t180.toList == ([50, 48, 48, 48, 45, 48, 50, 45, 50, 57] : List UInt8)))) else (supercargolaw02_awake.j0 k false)) else (supercargolaw02_awake.j0 k false)) else (supercargolaw02_awake.j0 k false)) else (supercargolaw02_awake.j0 k false)) else (supercargolaw02_awake.j0 k false)) else (supercargolaw02_awake.j0 k false)))) = some r := H
  have A1 := Aside0.mk A10
  clear A10
  replace H := Option.bind_eq_some_iff.mp H
  obtain ⟨⟨t176, t177⟩, A20, H⟩ := H
  replace H : ((day_Tenor.f k 30 1).bind fun bt178 => (if t175 = true then (if t174 = 7 then (if t177 = true then (if t176 = 7 then (if bt178.2 = true then (if bt178.1 = 59 then ((day_Text.f k 59).bind fun t180 => (supercargolaw02_awake.j0 k (t180.toList == ([50, 48, 48, 48, 45, 48, 50, 45, 50, 57] : List UInt8)))) else (supercargolaw02_awake.j0 k false)) else (supercargolaw02_awake.j0 k false)) else (supercargolaw02_awake.j0 k false)) else (supercargolaw02_awake.j0 k false)) else (supercargolaw02_awake.j0 k false)) else (supercargolaw02_awake.j0 k false))) = some r := H
  have A2 := Aside0.mk A20
  clear A20
  replace H := Option.bind_eq_some_iff.mp H
  obtain ⟨⟨t178, t179⟩, A30, H⟩ := H
  replace H : (if t175 = true then (if t174 = 7 then (if t177 = true then (if t176 = 7 then (if t179 = true then (if t178 = 59 then ((day_Text.f k 59).bind fun t180 => (supercargolaw02_awake.j0 k (t180.toList == ([50, 48, 48, 48, 45, 48, 50, 45, 50, 57] : List UInt8)))) else (supercargolaw02_awake.j0 k false)) else (supercargolaw02_awake.j0 k false)) else (supercargolaw02_awake.j0 k false)) else (supercargolaw02_awake.j0 k false)) else (supercargolaw02_awake.j0 k false)) else (supercargolaw02_awake.j0 k false)) = some r := H
  have A3 := Aside0.mk A30
  clear A30
  have HC4 := Aside0.mk H
  clear H
  go_enter Tryd.func10, Tryd.ntmps10
  go_upto_region 5 with (first | ((with_reducible refine gate_dst (N := 8) rfl ?_); refine Kd.R_lit (Kd.int .i64) _ 3 ?hg (N := 8) ?hd (xs := ([5, 6] : List Int)) (inner := [.int .i64 5, .int .i64 6]) (ok := fun _ => True) (okp := fun _ => True) ?hr ?hp (fun _ hk => hk) trivial (Below.refl _ _) (Nat.le_refl _) (by simp) ?_; (case hd => rfl); (case hg => rfl); (case hr => first | (go_simp; done) | (go_simp; rfl)); (case hp => exact (Reps.one (show Kd.M (Kd.int .i64) _ _ _ 5 [.int .i64 5] from rfl) (Reps.one (show Kd.M (Kd.int .i64) _ _ _ 6 [.int .i64 6] from rfl) (Reps.none _ _)))); intro v171 w5 ho6 hb hg_ hnew_; clear hg_ hnew_; (first | rw [← Ny170.out] at ho6 | (simp only [Int.reduceToNat] at ho6; rw [← Ny170.out] at ho6)); have n0_ := Aside0.mk (Kd.R_lower ho6 (below_size (by repeat (first | (with_reducible first | exact HB.out | apply below_alloc | apply pw_below_drewN | apply below_drew1) | exact HB.out)))); have n1_ := Aside0.mk (below_step (by repeat (first | (with_reducible first | exact HB.out | apply below_alloc | apply pw_below_drewN | apply below_drew1) | exact HB.out)) hb); clear HB; have HO172 := n0_; have HB := n1_; clear n0_ n1_; clear hb ho6; obtain ⟨Ao7, co7, eo7⟩ := Kd.R_slice HO172.out; subst eo7) | ((with_reducible refine gate_dst (N := 1) rfl ?_); refine box_event ?hg (N := 1) ?hd (cs := #[.slice none 0 0, .slice none 0 0]) (t := 31) ?hr ?_; (case hd => rfl); (case hg => rfl); (case hr => first | (go_simp; done) | (go_simp; rfl)); intro gb173 hg w8 hbox hb; have n0_ := Aside0.mk (Kd.R_below (by (with_reducible repeat (first | apply Kd.R_alloc | apply Kd.R_drewN | apply Kd.R_drew)); exact HO172.out) hb); have n1_ := Aside0.mk (below_step (by repeat (first | (with_reducible first | exact HB.out | apply below_alloc | apply pw_below_drewN | apply below_drew1) | exact HB.out)) hb); have n2_ := Aside0.mk (hbox); have n3_ := Aside0.mk ((by rw [hg]; exact (below_size (by repeat (first | (with_reducible first | exact HB.out | apply below_alloc | apply pw_below_drewN | apply below_drew1) | exact HB.out))) : w.heap.size ≤ gb173)); have n4_ := Aside0.mk ((by rw [hg]; exact (below_size (by repeat (first | (with_reducible first | exact HB.out | apply below_alloc | apply pw_below_drewN | apply below_drew1) | exact HB.out))) : w.heap.size ≤ gb173)); clear HO172; clear HB; have HO172 := n0_; have HB := n1_; have BK173 := n2_; have GW173 := n3_; have GE173 := n4_; clear n0_ n1_ n2_ n3_ n4_; clear hb hbox hg; have hcz9_0 : w8.cell? ⟨gb173, 0, none⟩ = some (.slice none 0 0) := (blk_cell BK173.out 0).trans rfl; have hcz9_1 : w8.cell? ⟨gb173, 1, none⟩ = some (.slice none 0 0) := (blk_cell BK173.out 1).trans rfl; have hfz9_0 := blk_frozen BK173.out 0; have hfz9_1 := blk_frozen BK173.out 1) | ((with_reducible refine gate_callee (f := 17) rfl ?_); refine goesL_ (some 12) rfl rfl Tryd.func17 (by kernel_rfl) rfl #[.agg #[.slice Ao7 y170.length co7, .slice none 0 0], .int .i64 5] rfl (by (try simp only [List.map_toArray, List.map_cons, List.map_nil]); first | done | rfl | (simp only [List.length_drop, List.length_take]; rfl)) ?_; (refine (day_Next.calls k _ _ y170 _ _ ([] : List Int) 5 t174 t175 _ ?side1 ?side2 ?side3 ?side4 A1.out).mono ?_); (case side1 => refine (Kd.R_reads' (e := 3) (base := w.heap.size) (ok := fun k_ => True) (n := y170.length) (c := co7) ?_).2.2; exact (by (with_reducible repeat (first | apply Kd.R_alloc | apply Kd.R_drewN | apply Kd.R_drew)); exact (Kd.R_mono (Kd.R_far (p := ⟨gb173, 1, none⟩) (Kd.R_far (p := ⟨gb173, 0, none⟩) (Kd.R_types HO172.out BK173.out (by decide)) (fun _ hk => hk.2) (.slice Ao7 y170.length co7)) (fun _ hk => hk.2) (.slice none 0 0)) (fun _ h_ => h_.1)))); (case side2 => exact (Kd.R_reads' HO172.out).2.1); (case side3 => exact Kd.C_nil _ _); (case side4 => exact Nat.le_refl _); rintro e w10 ⟨rfl, hb⟩; refine ⟨_, rfl, ?_⟩; have n0_ := Aside0.mk (Kd.R_below (by (with_reducible repeat (first | apply Kd.R_alloc | apply Kd.R_drewN | apply Kd.R_drew)); exact (Kd.R_mono (Kd.R_far (p := ⟨gb173, 1, none⟩) (Kd.R_far (p := ⟨gb173, 0, none⟩) (Kd.R_types HO172.out BK173.out (by decide)) (fun _ hk => hk.2) (.slice Ao7 y170.length co7)) (fun _ hk => hk.2) (.slice none 0 0)) (fun _ h_ => h_.1))) hb); have n1_ := Aside0.mk (blk_below (g := gb173) (o := .cells #[.slice Ao7 y170.length co7, .slice none 0 0] 31 (0, 0)) (by (with_reducible repeat (first | refine blk_drewN ?_ _ | refine blk_drew ?_ | refine blk_alloc ?_ _)); refine blk_put (cs := #[.slice Ao7 y170.length co7, .slice none 0 0]) ?_ 1 _ rfl; (with_reducible repeat (first | refine blk_drewN ?_ _ | refine blk_drew ?_ | refine blk_alloc ?_ _)); refine blk_put (cs := #[.slice none 0 0, .slice none 0 0]) ?_ 0 _ rfl; (with_reducible repeat (first | refine blk_drewN ?_ _ | refine blk_drew ?_ | refine blk_alloc ?_ _)); exact BK173.out) hb); have n2_ := Aside0.mk (below_step (by repeat (first | (with_reducible first | exact HB.out | apply below_alloc | apply pw_below_drewN | apply below_drew1 | refine below_set ?_ GE173.out) | exact HB.out)) hb); clear HO172; clear BK173; clear HB; have HO172 := n0_; have BK173 := n1_; have HB := n2_; clear n0_ n1_ n2_; (try clear hb); (try clear hb2); (try clear hk); (try clear hi); have hcz11_0 : w10.cell? ⟨gb173, 0, none⟩ = some (.slice Ao7 y170.length co7) := (blk_cell BK173.out 0).trans rfl; have hcz11_1 : w10.cell? ⟨gb173, 1, none⟩ = some (.slice none 0 0) := (blk_cell BK173.out 1).trans rfl; have hfz11_0 := blk_frozen BK173.out 0; have hfz11_1 := blk_frozen BK173.out 1) | ((with_reducible refine gate_callee (f := 19) rfl ?_); refine goesL_ (some 17) rfl rfl Tryd.func19 (by kernel_rfl) rfl #[.agg #[.slice Ao7 y170.length co7, .slice none 0 0], .int .i64 4, .int .i64 1] rfl (by (try simp only [List.map_toArray, List.map_cons, List.map_nil]); first | done | rfl | (simp only [List.length_drop, List.length_take]; rfl)) ?_; (refine (day_Add.calls k _ _ y170 _ _ ([] : List Int) 4 1 t176 t177 _ ?side1 ?side2 ?side3 ?side4 A2.out).mono ?_); (case side1 => repeat (first | exact (Kd.R_reads' HO172.out).2.2 | (with_reducible refine Kd.C_alloc ?_ _) | (with_reducible refine Kd.C_drewN ?_ _) | (with_reducible refine Kd.C_drew ?_))); (case side2 => exact (Kd.R_reads' HO172.out).2.1); (case side3 => exact Kd.C_nil _ _); (case side4 => exact Nat.le_refl _); rintro e w12 ⟨rfl, hb⟩; refine ⟨_, rfl, ?_⟩; have n0_ := Aside0.mk (Kd.R_below (by (with_reducible repeat (first | apply Kd.R_alloc | apply Kd.R_drewN | apply Kd.R_drew)); exact HO172.out) hb); have n1_ := Aside0.mk (blk_below (g := gb173) (o := .cells #[.slice Ao7 y170.length co7, .slice none 0 0] 31 (0, 0)) (by (with_reducible repeat (first | refine blk_drewN ?_ _ | refine blk_drew ?_ | refine blk_alloc ?_ _)); exact BK173.out) hb); have n2_ := Aside0.mk (below_step (by repeat (first | (with_reducible first | exact HB.out | apply below_alloc | apply pw_below_drewN | apply below_drew1 | refine below_set ?_ GE173.out) | exact HB.out)) hb); clear HO172; clear BK173; clear HB; have HO172 := n0_; have BK173 := n1_; have HB := n2_; clear n0_ n1_ n2_; (try clear hb); (try clear hb2); (try clear hk); (try clear hi)) | ((with_reducible refine gate_callee (f := 12) rfl ?_); refine goesL_ (some 21) rfl rfl Tryd.func12 (by kernel_rfl) rfl #[.int .i64 30, .int .i64 1] rfl (by (try simp only [List.map_toArray, List.map_cons, List.map_nil]); first | done | rfl | (simp only [List.length_drop, List.length_take]; rfl)) ?_; (with_reducible refine (day_Tenor.calls k 30 1 t178 t179 _ ?side1 A3.out).mono ?_); (case side1 => repeat (first | exact HT.out | exact Tabs_below HT.out (by repeat (first | (with_reducible first | exact HB.out | apply below_alloc | apply pw_below_drewN | apply below_drew1 | refine below_set ?_ GE173.out) | exact HB.out)) | (with_reducible refine Tabs_drewN ?_ _) | (with_reducible refine Tabs_drew ?_))); rintro e w13 ⟨rfl, hb⟩; refine ⟨_, rfl, ?_⟩; have n0_ := Aside0.mk (Kd.R_below (by (with_reducible repeat (first | apply Kd.R_alloc | apply Kd.R_drewN | apply Kd.R_drew)); exact HO172.out) hb); have n1_ := Aside0.mk (blk_below (g := gb173) (o := .cells #[.slice Ao7 y170.length co7, .slice none 0 0] 31 (0, 0)) (by (with_reducible repeat (first | refine blk_drewN ?_ _ | refine blk_drew ?_ | refine blk_alloc ?_ _)); exact BK173.out) hb); have n2_ := Aside0.mk (below_step (by repeat (first | (with_reducible first | exact HB.out | apply below_alloc | apply pw_below_drewN | apply below_drew1 | refine below_set ?_ GE173.out) | exact HB.out)) hb); clear HO172; clear BK173; clear HB; have HO172 := n0_; have BK173 := n1_; have HB := n2_; clear n0_ n1_ n2_; (try clear hb); (try clear hb2); (try clear hk); (try clear hi)))
  (try simp only [Act.put, List.setIfInBounds_toArray, List.set_cons_zero, List.set_cons_succ])
  go_cut [0] (fun v0 wc => ∃ (kq : Nat) (x0_3 : Bool), v0 = .bool x0_3 ∧ Aside0 (supercargolaw02_awake.j0 kq x0_3 = some r) ∧ Aside0 (kq ≤ k) ∧ Aside0 (Kd.R (Kd.int .i64) 3 wc w.heap.size (fun _ => True) (.slice Ao7 y170.length co7) y170) ∧ Aside0 (wc.heap[gb173]? = some (.cells #[(.slice Ao7 y170.length co7), (.slice none 0 0)] 31 (0, 0))) ∧ Aside0 (Below w.heap.size w wc))
  case first =>
    have H := HC4.out
    clear HC4
    by_cases c14 : t175 = true
    · subst c14
      have H1 : (if t174 = 7 then (if t177 = true then (if t176 = 7 then (if t179 = true then (if t178 = 59 then ((day_Text.f k 59).bind fun t180 => (supercargolaw02_awake.j0 k (t180.toList == ([50, 48, 48, 48, 45, 48, 50, 45, 50, 57] : List UInt8)))) else (supercargolaw02_awake.j0 k false)) else (supercargolaw02_awake.j0 k false)) else (supercargolaw02_awake.j0 k false)) else (supercargolaw02_awake.j0 k false)) else (supercargolaw02_awake.j0 k false)) = some r := by rw [if_pos rfl] at H; exact H
      clear H
      have H := H1
      clear H1
      by_cases c15 : t174 = 7
      · rw [if_pos c15] at H
        have c15b0 : (t174 == 7) = true := beq_iff_eq.mpr c15
        have c15b1 : (t174 != 7) = false := bne_eq_false_iff_eq.mpr c15
        clear c15
        (first | rw [c15b0] | (simp only [i64_w, i32_w]; rw [c15b0]) | skip)
        by_cases c16 : t177 = true
        · subst c16
          have H1 : (if t176 = 7 then (if t179 = true then (if t178 = 59 then ((day_Text.f k 59).bind fun t180 => (supercargolaw02_awake.j0 k (t180.toList == ([50, 48, 48, 48, 45, 48, 50, 45, 50, 57] : List UInt8)))) else (supercargolaw02_awake.j0 k false)) else (supercargolaw02_awake.j0 k false)) else (supercargolaw02_awake.j0 k false)) = some r := by rw [if_pos rfl] at H; exact H
          clear H
          have H := H1
          clear H1
          by_cases c17 : t176 = 7
          · rw [if_pos c17] at H
            have c17b0 : (t176 == 7) = true := beq_iff_eq.mpr c17
            have c17b1 : (t176 != 7) = false := bne_eq_false_iff_eq.mpr c17
            clear c17
            by_cases c18 : t179 = true
            · subst c18
              have H1 : (if t178 = 59 then ((day_Text.f k 59).bind fun t180 => (supercargolaw02_awake.j0 k (t180.toList == ([50, 48, 48, 48, 45, 48, 50, 45, 50, 57] : List UInt8)))) else (supercargolaw02_awake.j0 k false)) = some r := by rw [if_pos rfl] at H; exact H
              clear H
              have H := H1
              clear H1
              by_cases c19 : t178 = 59
              · rw [if_pos c19] at H
                have c19b0 : (t178 == 59) = true := beq_iff_eq.mpr c19
                have c19b1 : (t178 != 59) = false := bne_eq_false_iff_eq.mpr c19
                clear c19
                replace H := Option.bind_eq_some_iff.mp H
                obtain ⟨t180, A200, H⟩ := H
                replace H : (supercargolaw02_awake.j0 k (t180.toList == ([50, 48, 48, 48, 45, 48, 50, 45, 50, 57] : List UInt8))) = some r := H
                have A20 := Aside0.mk A200
                clear A200
                have H' := Aside0.mk H
                clear H
                go_wp2_with (first | (go_at_call 29; (with_reducible refine (day_Text.calls k 59 t180 _ ?side1 A20.out).mono ?_); (case side1 => repeat (first | exact HT.out | exact Tabs_below HT.out (by repeat (first | (with_reducible first | exact HB.out | apply below_alloc | apply pw_below_drewN | apply below_drew1 | refine below_set ?_ GE173.out) | exact HB.out)) | (with_reducible refine Tabs_drewN ?_ _) | (with_reducible refine Tabs_drew ?_))); rintro e w21 ⟨rfl, hb⟩; have n0_ := Aside0.mk (Kd.R_below (by (with_reducible repeat (first | apply Kd.R_alloc | apply Kd.R_drewN | apply Kd.R_drew)); exact HO172.out) hb); have n1_ := Aside0.mk (blk_below (g := gb173) (o := .cells #[.slice Ao7 y170.length co7, .slice none 0 0] 31 (0, 0)) (by (with_reducible repeat (first | refine blk_drewN ?_ _ | refine blk_drew ?_ | refine blk_alloc ?_ _)); exact BK173.out) hb); have n2_ := Aside0.mk (below_step (by repeat (first | (with_reducible first | exact HB.out | apply below_alloc | apply pw_below_drewN | apply below_drew1 | refine below_set ?_ GE173.out) | exact HB.out)) hb); clear HO172; clear BK173; clear HB; have HO172 := n0_; have BK173 := n1_; have HB := n2_; clear n0_ n1_ n2_; (try clear hb); (try clear hb2); (try clear hk); (try clear hi)))
                go_meet
                case rel => exact ⟨_, ((t180.toList == ([50, 48, 48, 48, 45, 48, 50, 45, 50, 57] : List UInt8))), (by first | rfl | (simp; done) | (simp [*]; done)), H', ⟨by first | omega | exact Nat.le_refl _⟩, ⟨by (with_reducible repeat (first | apply Kd.R_alloc | apply Kd.R_drewN | apply Kd.R_drew)); exact HO172.out⟩, ⟨by (with_reducible repeat (first | refine blk_drewN ?_ _ | refine blk_drew ?_ | refine blk_alloc ?_ _)); exact BK173.out⟩, ⟨by repeat (first | (with_reducible first | exact HB.out | apply below_alloc | apply pw_below_drewN | apply below_drew1 | refine below_set ?_ GE173.out) | exact HB.out)⟩⟩
              · rw [if_neg c19] at H
                have c19b0 : (t178 == 59) = false := beq_eq_false_iff_ne.mpr c19
                have c19b1 : (t178 != 59) = true := bne_iff_ne.mpr c19
                have H' := Aside0.mk H
                clear H
                go_wp2
                go_meet
                case rel => exact ⟨_, (false), (by first | rfl | (simp; done) | (simp [*]; done)), H', ⟨by first | omega | exact Nat.le_refl _⟩, ⟨by (with_reducible repeat (first | apply Kd.R_alloc | apply Kd.R_drewN | apply Kd.R_drew)); exact HO172.out⟩, ⟨by (with_reducible repeat (first | refine blk_drewN ?_ _ | refine blk_drew ?_ | refine blk_alloc ?_ _)); exact BK173.out⟩, ⟨by repeat (first | (with_reducible first | exact HB.out | apply below_alloc | apply pw_below_drewN | apply below_drew1 | refine below_set ?_ GE173.out) | exact HB.out)⟩⟩
            · replace c18 := Bool.eq_false_iff.mpr c18
              subst c18
              have H1 : (supercargolaw02_awake.j0 k false) = some r := by rw [if_neg (show ¬ (false = true) by decide)] at H; exact H
              clear H
              have H := H1
              clear H1
              have H' := Aside0.mk H
              clear H
              go_wp2
              go_meet
              case rel => exact ⟨_, (false), (by first | rfl | (simp; done) | (simp [*]; done)), H', ⟨by first | omega | exact Nat.le_refl _⟩, ⟨by (with_reducible repeat (first | apply Kd.R_alloc | apply Kd.R_drewN | apply Kd.R_drew)); exact HO172.out⟩, ⟨by (with_reducible repeat (first | refine blk_drewN ?_ _ | refine blk_drew ?_ | refine blk_alloc ?_ _)); exact BK173.out⟩, ⟨by repeat (first | (with_reducible first | exact HB.out | apply below_alloc | apply pw_below_drewN | apply below_drew1 | refine below_set ?_ GE173.out) | exact HB.out)⟩⟩
          · rw [if_neg c17] at H
            have c17b0 : (t176 == 7) = false := beq_eq_false_iff_ne.mpr c17
            have c17b1 : (t176 != 7) = true := bne_iff_ne.mpr c17
            have H' := Aside0.mk H
            clear H
            go_wp2
            go_meet
            case rel => exact ⟨_, (false), (by first | rfl | (simp; done) | (simp [*]; done)), H', ⟨by first | omega | exact Nat.le_refl _⟩, ⟨by (with_reducible repeat (first | apply Kd.R_alloc | apply Kd.R_drewN | apply Kd.R_drew)); exact HO172.out⟩, ⟨by (with_reducible repeat (first | refine blk_drewN ?_ _ | refine blk_drew ?_ | refine blk_alloc ?_ _)); exact BK173.out⟩, ⟨by repeat (first | (with_reducible first | exact HB.out | apply below_alloc | apply pw_below_drewN | apply below_drew1 | refine below_set ?_ GE173.out) | exact HB.out)⟩⟩
        · replace c16 := Bool.eq_false_iff.mpr c16
          subst c16
          have H1 : (supercargolaw02_awake.j0 k false) = some r := by rw [if_neg (show ¬ (false = true) by decide)] at H; exact H
          clear H
          have H := H1
          clear H1
          have H' := Aside0.mk H
          clear H
          go_wp2
          go_meet
          case rel => exact ⟨_, (false), (by first | rfl | (simp; done) | (simp [*]; done)), H', ⟨by first | omega | exact Nat.le_refl _⟩, ⟨by (with_reducible repeat (first | apply Kd.R_alloc | apply Kd.R_drewN | apply Kd.R_drew)); exact HO172.out⟩, ⟨by (with_reducible repeat (first | refine blk_drewN ?_ _ | refine blk_drew ?_ | refine blk_alloc ?_ _)); exact BK173.out⟩, ⟨by repeat (first | (with_reducible first | exact HB.out | apply below_alloc | apply pw_below_drewN | apply below_drew1 | refine below_set ?_ GE173.out) | exact HB.out)⟩⟩
      · rw [if_neg c15] at H
        have c15b0 : (t174 == 7) = false := beq_eq_false_iff_ne.mpr c15
        have c15b1 : (t174 != 7) = true := bne_iff_ne.mpr c15
        (first | rw [c15b0] | (simp only [i64_w, i32_w]; rw [c15b0]) | skip)
        have H' := Aside0.mk H
        clear H
        go_wp2
        go_meet
        case rel => exact ⟨_, (false), (by first | rfl | (simp; done) | (simp [*]; done)), H', ⟨by first | omega | exact Nat.le_refl _⟩, ⟨by (with_reducible repeat (first | apply Kd.R_alloc | apply Kd.R_drewN | apply Kd.R_drew)); exact HO172.out⟩, ⟨by (with_reducible repeat (first | refine blk_drewN ?_ _ | refine blk_drew ?_ | refine blk_alloc ?_ _)); exact BK173.out⟩, ⟨by repeat (first | (with_reducible first | exact HB.out | apply below_alloc | apply pw_below_drewN | apply below_drew1 | refine below_set ?_ GE173.out) | exact HB.out)⟩⟩
    · replace c14 := Bool.eq_false_iff.mpr c14
      subst c14
      have H1 : (supercargolaw02_awake.j0 k false) = some r := by rw [if_neg (show ¬ (false = true) by decide)] at H; exact H
      clear H
      have H := H1
      clear H1
      have H' := Aside0.mk H
      clear H
      go_wp2
      go_meet
      case rel => exact ⟨_, (false), (by first | rfl | (simp; done) | (simp [*]; done)), H', ⟨by first | omega | exact Nat.le_refl _⟩, ⟨by (with_reducible repeat (first | apply Kd.R_alloc | apply Kd.R_drewN | apply Kd.R_drew)); exact HO172.out⟩, ⟨by (with_reducible repeat (first | refine blk_drewN ?_ _ | refine blk_drew ?_ | refine blk_alloc ?_ _)); exact BK173.out⟩, ⟨by repeat (first | (with_reducible first | exact HB.out | apply below_alloc | apply pw_below_drewN | apply below_drew1 | refine below_set ?_ GE173.out) | exact HB.out)⟩⟩
  case rest =>
    clear HC4
    try clear c1
    try clear p2
    try clear c10
    try clear c12
    try clear c14
    try clear c15
    try clear c15b0
    try clear c15b1
    try clear c16
    try clear c17
    try clear c17b0
    try clear c17b1
    try clear c18
    try clear c19
    try clear c19b0
    try clear c19b1
    try clear hcz11_0
    try clear hcz11_1
    try clear hcz9_0
    try clear hcz9_1
    try clear hfz11_0
    try clear hfz11_1
    try clear hfz9_0
    try clear hfz9_1
    obtain ⟨kq, x0_3, rfl, HA, HJ3, HO_174000, BK173, HB⟩ := hcut
    cases kq with
    | zero => exact absurd HA.out (by simp [supercargolaw02_awake.j0])
    | succ kj3 =>
      have H := HA.out
      clear HA
      simp only [supercargolaw02_awake.j0] at H
      obtain rfl := Option.some.inj H
      go_wp2
      go_ret
      exact ⟨by first | rfl | (simp [errW_none, errW_some] <;> rfl) | (simp [*, errW_none, errW_some] <;> rfl), by repeat (first | (with_reducible first | exact HB.out | apply below_alloc | apply pw_below_drewN | apply below_drew1 | refine below_set ?_ GE173.out) | exact HB.out)⟩

/-! ### supercargoref02_Is: function 14 -/
def supercargoref02_Is.f (a0 : Int) : Option (Bool) := if a0 ≥ 0 then (some (decide (a0 ≤ 1048576))) else (some false)
set_option maxHeartbeats 8000000 in
set_option maxRecDepth 100000 in
theorem supercargoref02_Is.calls (a0 : Int) (r : Bool) (w : World) (h : supercargoref02_Is.f a0 = some r) :
    Calls Tryd.prog 14 #[.int .i64 a0] w fun e w' => e = .returned (.bool r) ∧ Drawn0 w w' := by
  have H : (if a0 ≥ 0 then (some (decide (a0 ≤ 1048576))) else (some false)) = some r := h
  clear h
  by_cases c2 : a0 ≥ 0
  · rw [if_pos c2] at H
    have c2b0 : decide (0 ≤ a0) = true := decide_eq_true c2
    clear c2
    obtain rfl := Option.some.inj H
    go_enter Tryd.func14, Tryd.ntmps14
    go_wp2
    go_ret
    exact ⟨by first | rfl | (simp; done) | (simp [*]; done), by repeat (first | exact Drawn0.refl _ | apply Drawn0.step)⟩
  · rw [if_neg c2] at H
    have c2b0 : decide (0 ≤ a0) = false := decide_eq_false c2
    clear c2
    obtain rfl := Option.some.inj H
    go_enter Tryd.func14, Tryd.ntmps14
    go_wp2
    go_ret
    exact ⟨by first | rfl | (simp; done) | (simp [*]; done), by repeat (first | exact Drawn0.refl _ | apply Drawn0.step)⟩

/-! ### day_form: function 48 -/
def day_form.l0 : Nat → ByteArray → Int → Int → Option (Bool)
  | 0, _, _, _ => none
  | k + 1, x0, x9, x10 => if x10 < x9 then (if x10 = 4 then (if 0 ≤ x10 then (if x10 < (x0.size : Int) then (if (bt x0 x10) = 45 then (day_form.l0 k x0 x9 (wrap64 (x10 + 1))) else (some false)) else (none)) else (none)) else (if x10 = 7 then (if 0 ≤ x10 then (if x10 < (x0.size : Int) then (if (bt x0 x10) = 45 then (day_form.l0 k x0 x9 (wrap64 (x10 + 1))) else (some false)) else (none)) else (none)) else (if 0 ≤ x10 then (if x10 < (x0.size : Int) then (if (bt x0 x10) < 48 then (some false) else (if (bt x0 x10) > 57 then (some false) else (day_form.l0 k x0 x9 (wrap64 (x10 + 1))))) else (none)) else (none)))) else (some true)
def day_form.f (k : Nat) (a0 : ByteArray) : Option (Bool) := if (a0.size : Int) = 10 then (day_form.l0 k a0 (a0.size : Int) 0) else (some false)
theorem day_form.mono_l : ∀ k, (∀ y0 y1 y2, LeO (day_form.l0 k y0 y1 y2) (day_form.l0 (k + 1) y0 y1 y2))
  | 0 => fun _ _ _ r h => by simp [day_form.l0] at h
  | k + 1 => by
    have ih0 := day_form.mono_l k
    · intro y0 y1 y2
      unfold day_form.l0
      repeat' first
      | (with_reducible exact ih0 _ _ _)
      | (with_reducible exact LeO.refl _)
      | (with_reducible exact LeO.none _)
      | (with_reducible refine LeO.ite ?_ ?_)
      | (with_reducible refine LeO.bind ?_ (fun _ => ?_))
      | exact ih0 _ _ _
      | exact LeO.none _
      | refine LeO.ite ?_ ?_
      | refine LeO.bind ?_ (fun _ => ?_)
theorem day_form.mono : ∀ a0 k, LeO (day_form.f k a0) (day_form.f (k + 1) a0) := by
  intro a0 k
  have ih0 := day_form.mono_l k
  unfold day_form.f
  repeat' first
      | (with_reducible exact ih0 _ _ _)
      | (with_reducible exact LeO.refl _)
      | (with_reducible exact LeO.none _)
      | (with_reducible refine LeO.ite ?_ ?_)
      | (with_reducible refine LeO.bind ?_ (fun _ => ?_))
      | exact ih0 _ _ _
      | exact LeO.none _
      | refine LeO.ite ?_ ?_
      | refine LeO.bind ?_ (fun _ => ?_)
set_option maxHeartbeats 8000000 in
set_option maxRecDepth 100000 in
theorem day_form.calls (k : Nat) (a0 : ByteArray) (r : Bool) (w : World) (h : day_form.f k a0 = some r) :
    Calls Tryd.prog 48 #[.string a0] w fun e w' => e = .returned (.bool r) ∧ Drawn0 w w' := by
  have H : (if (a0.size : Int) = 10 then (day_form.l0 k a0 (a0.size : Int) 0) else (some false)) = some r := h
  clear h
  by_cases c2 : (a0.size : Int) = 10
  · rw [if_pos c2] at H
    have c2b0 : ((a0.size : Int) == 10) = true := beq_iff_eq.mpr c2
    have c2b1 : ((a0.size : Int) != 10) = false := bne_eq_false_iff_eq.mpr c2
    clear c2
    have H' := Aside0.mk H
    clear H
    go_enter Tryd.func48, Tryd.ntmps48
    go_wp2
    go_loopg [10] k (fun kq v10 w' => ∃ (x10_1 : Int), v10 = .int .i64 x10_1 ∧ Aside0 (day_form.l0 kq a0 (a0.size : Int) x10_1 = some r) ∧ Aside0 (kq ≤ k) ∧ Drawn0 w w')
    case atStart => exact ⟨(0), (by first | rfl | (simp; done) | (simp [*]; done)), H', ⟨Nat.le_refl _⟩, by repeat (first | exact Drawn0.refl _ | apply Drawn0.step)⟩
    case round =>
      clear H'
      try clear c2
      try clear c2b0
      try clear c2b1
      try clear p2
      obtain ⟨x10_1, rfl, HA, HK1, ⟨m1, rfl⟩⟩ := hrel
      cases gk with
      | zero => exact absurd HA.out (by simp [day_form.l0])
      | succ k1 =>
        have H := HA.out
        clear HA
        simp only [day_form.l0] at H
        by_cases c3 : x10_1 < (a0.size : Int)
        · rw [if_pos c3] at H
          have c3b0 : decide (x10_1 < (a0.size : Int)) = true := decide_eq_true c3
          clear c3
          by_cases c4 : x10_1 = 4
          · rw [if_pos c4] at H
            have c4b0 : (x10_1 == 4) = true := beq_iff_eq.mpr c4
            have c4b1 : (x10_1 != 4) = false := bne_eq_false_iff_eq.mpr c4
            clear c4
            by_cases c5 : 0 ≤ x10_1
            · rw [if_pos c5] at H
              have c5b0 : decide (0 ≤ x10_1) = true := decide_eq_true c5
              clear c5
              by_cases c6 : x10_1 < (a0.size : Int)
              · rw [if_pos c6] at H
                have c6b0 : decide (x10_1 < (a0.size : Int)) = true := decide_eq_true c6
                clear c6
                by_cases c8 : (bt a0 x10_1) = 45
                · rw [if_pos c8] at H
                  have c8b0 : ((bt a0 x10_1) == 45) = true := beq_iff_eq.mpr c8
                  have c8b1 : ((bt a0 x10_1) != 45) = false := bne_eq_false_iff_eq.mpr c8
                  clear c8
                  have H' := Aside0.mk H
                  clear H
                  have p7 : 0 ≤ (x10_1 : Int) := of_decide_eq_true (by first | (with_reducible assumption) | assumption)
                  have q7 : x10_1 < (a0.size : Int) := of_decide_eq_true (by first | (with_reducible assumption) | assumption)
                  have hx7 := bt_at a0 x10_1
                  replace p7 := eq_true p7
                  replace q7 := eq_true q7
                  go_wp2
                  go_roundg k1
                  case measure => have := HK1.out; omega
                  case rel => exact ⟨(wrap64 (x10_1 + 1)), (by first | rfl | (simp; done) | (simp [*]; done)), H', ⟨by have := HK1.out; omega⟩, by repeat (first | exact Drawn0.refl _ | apply Drawn0.step)⟩
                · rw [if_neg c8] at H
                  have c8b0 : ((bt a0 x10_1) == 45) = false := beq_eq_false_iff_ne.mpr c8
                  have c8b1 : ((bt a0 x10_1) != 45) = true := bne_iff_ne.mpr c8
                  obtain rfl := Option.some.inj H
                  have p7 : 0 ≤ (x10_1 : Int) := of_decide_eq_true (by first | (with_reducible assumption) | assumption)
                  have q7 : x10_1 < (a0.size : Int) := of_decide_eq_true (by first | (with_reducible assumption) | assumption)
                  have hx7 := bt_at a0 x10_1
                  replace p7 := eq_true p7
                  replace q7 := eq_true q7
                  go_wp2
                  go_ret
                  exact ⟨by first | rfl | (simp; done) | (simp [*]; done), by repeat (first | exact Drawn0.refl _ | apply Drawn0.step)⟩
              · rw [if_neg c6] at H
                exact absurd H (by simp)
            · rw [if_neg c5] at H
              exact absurd H (by simp)
          · rw [if_neg c4] at H
            have c4b0 : (x10_1 == 4) = false := beq_eq_false_iff_ne.mpr c4
            have c4b1 : (x10_1 != 4) = true := bne_iff_ne.mpr c4
            by_cases c9 : x10_1 = 7
            · rw [if_pos c9] at H
              have c9b0 : (x10_1 == 7) = true := beq_iff_eq.mpr c9
              have c9b1 : (x10_1 != 7) = false := bne_eq_false_iff_eq.mpr c9
              clear c9
              by_cases c10 : 0 ≤ x10_1
              · rw [if_pos c10] at H
                have c10b0 : decide (0 ≤ x10_1) = true := decide_eq_true c10
                clear c10
                by_cases c11 : x10_1 < (a0.size : Int)
                · rw [if_pos c11] at H
                  have c11b0 : decide (x10_1 < (a0.size : Int)) = true := decide_eq_true c11
                  clear c11
                  by_cases c13 : (bt a0 x10_1) = 45
                  · rw [if_pos c13] at H
                    have c13b0 : ((bt a0 x10_1) == 45) = true := beq_iff_eq.mpr c13
                    have c13b1 : ((bt a0 x10_1) != 45) = false := bne_eq_false_iff_eq.mpr c13
                    clear c13
                    have H' := Aside0.mk H
                    clear H
                    have p12 : 0 ≤ (x10_1 : Int) := of_decide_eq_true (by first | (with_reducible assumption) | assumption)
                    have q12 : x10_1 < (a0.size : Int) := of_decide_eq_true (by first | (with_reducible assumption) | assumption)
                    have hx12 := bt_at a0 x10_1
                    replace p12 := eq_true p12
                    replace q12 := eq_true q12
                    go_wp2
                    go_roundg k1
                    case measure => have := HK1.out; omega
                    case rel => exact ⟨(wrap64 (x10_1 + 1)), (by first | rfl | (simp; done) | (simp [*]; done)), H', ⟨by have := HK1.out; omega⟩, by repeat (first | exact Drawn0.refl _ | apply Drawn0.step)⟩
                  · rw [if_neg c13] at H
                    have c13b0 : ((bt a0 x10_1) == 45) = false := beq_eq_false_iff_ne.mpr c13
                    have c13b1 : ((bt a0 x10_1) != 45) = true := bne_iff_ne.mpr c13
                    obtain rfl := Option.some.inj H
                    have p12 : 0 ≤ (x10_1 : Int) := of_decide_eq_true (by first | (with_reducible assumption) | assumption)
                    have q12 : x10_1 < (a0.size : Int) := of_decide_eq_true (by first | (with_reducible assumption) | assumption)
                    have hx12 := bt_at a0 x10_1
                    replace p12 := eq_true p12
                    replace q12 := eq_true q12
                    go_wp2
                    go_ret
                    exact ⟨by first | rfl | (simp; done) | (simp [*]; done), by repeat (first | exact Drawn0.refl _ | apply Drawn0.step)⟩
                · rw [if_neg c11] at H
                  exact absurd H (by simp)
              · rw [if_neg c10] at H
                exact absurd H (by simp)
            · rw [if_neg c9] at H
              have c9b0 : (x10_1 == 7) = false := beq_eq_false_iff_ne.mpr c9
              have c9b1 : (x10_1 != 7) = true := bne_iff_ne.mpr c9
              by_cases c14 : 0 ≤ x10_1
              · rw [if_pos c14] at H
                have c14b0 : decide (0 ≤ x10_1) = true := decide_eq_true c14
                clear c14
                by_cases c15 : x10_1 < (a0.size : Int)
                · rw [if_pos c15] at H
                  have c15b0 : decide (x10_1 < (a0.size : Int)) = true := decide_eq_true c15
                  clear c15
                  by_cases c17 : (bt a0 x10_1) < 48
                  · rw [if_pos c17] at H
                    have c17b0 : decide ((bt a0 x10_1) < 48) = true := decide_eq_true c17
                    clear c17
                    obtain rfl := Option.some.inj H
                    have p16 : 0 ≤ (x10_1 : Int) := of_decide_eq_true (by first | (with_reducible assumption) | assumption)
                    have q16 : x10_1 < (a0.size : Int) := of_decide_eq_true (by first | (with_reducible assumption) | assumption)
                    have hx16 := bt_at a0 x10_1
                    replace p16 := eq_true p16
                    replace q16 := eq_true q16
                    go_wp2
                    go_ret
                    exact ⟨by first | rfl | (simp; done) | (simp [*]; done), by repeat (first | exact Drawn0.refl _ | apply Drawn0.step)⟩
                  · rw [if_neg c17] at H
                    have c17b0 : decide ((bt a0 x10_1) < 48) = false := decide_eq_false c17
                    clear c17
                    by_cases c19 : (bt a0 x10_1) > 57
                    · rw [if_pos c19] at H
                      have c19b0 : decide (57 < (bt a0 x10_1)) = true := decide_eq_true c19
                      clear c19
                      obtain rfl := Option.some.inj H
                      have p16 : 0 ≤ (x10_1 : Int) := of_decide_eq_true (by first | (with_reducible assumption) | assumption)
                      have q16 : x10_1 < (a0.size : Int) := of_decide_eq_true (by first | (with_reducible assumption) | assumption)
                      have hx16 := bt_at a0 x10_1
                      replace p16 := eq_true p16
                      replace q16 := eq_true q16
                      have p18 : 0 ≤ (x10_1 : Int) := of_decide_eq_true (by first | (with_reducible assumption) | assumption)
                      have q18 : x10_1 < (a0.size : Int) := of_decide_eq_true (by first | (with_reducible assumption) | assumption)
                      have hx18 := bt_at a0 x10_1
                      replace p18 := eq_true p18
                      replace q18 := eq_true q18
                      go_wp2
                      go_ret
                      exact ⟨by first | rfl | (simp; done) | (simp [*]; done), by repeat (first | exact Drawn0.refl _ | apply Drawn0.step)⟩
                    · rw [if_neg c19] at H
                      have c19b0 : decide (57 < (bt a0 x10_1)) = false := decide_eq_false c19
                      clear c19
                      have H' := Aside0.mk H
                      clear H
                      have p16 : 0 ≤ (x10_1 : Int) := of_decide_eq_true (by first | (with_reducible assumption) | assumption)
                      have q16 : x10_1 < (a0.size : Int) := of_decide_eq_true (by first | (with_reducible assumption) | assumption)
                      have hx16 := bt_at a0 x10_1
                      replace p16 := eq_true p16
                      replace q16 := eq_true q16
                      have p18 : 0 ≤ (x10_1 : Int) := of_decide_eq_true (by first | (with_reducible assumption) | assumption)
                      have q18 : x10_1 < (a0.size : Int) := of_decide_eq_true (by first | (with_reducible assumption) | assumption)
                      have hx18 := bt_at a0 x10_1
                      replace p18 := eq_true p18
                      replace q18 := eq_true q18
                      go_wp2
                      go_roundg k1
                      case measure => have := HK1.out; omega
                      case rel => exact ⟨(wrap64 (x10_1 + 1)), (by first | rfl | (simp; done) | (simp [*]; done)), H', ⟨by have := HK1.out; omega⟩, by repeat (first | exact Drawn0.refl _ | apply Drawn0.step)⟩
                · rw [if_neg c15] at H
                  exact absurd H (by simp)
              · rw [if_neg c14] at H
                exact absurd H (by simp)
        · rw [if_neg c3] at H
          have c3b0 : decide (x10_1 < (a0.size : Int)) = false := decide_eq_false c3
          clear c3
          obtain rfl := Option.some.inj H
          go_wp2
          go_ret
          exact ⟨by first | rfl | (simp; done) | (simp [*]; done), by repeat (first | exact Drawn0.refl _ | apply Drawn0.step)⟩
  · rw [if_neg c2] at H
    have c2b0 : ((a0.size : Int) == 10) = false := beq_eq_false_iff_ne.mpr c2
    have c2b1 : ((a0.size : Int) != 10) = true := bne_iff_ne.mpr c2
    obtain rfl := Option.some.inj H
    go_enter Tryd.func48, Tryd.ntmps48
    go_wp2
    go_ret
    exact ⟨by first | rfl | (simp; done) | (simp [*]; done), by repeat (first | exact Drawn0.refl _ | apply Drawn0.step)⟩

end Go.Proofs.YtpmclpblnhjjeaaDoor.P
