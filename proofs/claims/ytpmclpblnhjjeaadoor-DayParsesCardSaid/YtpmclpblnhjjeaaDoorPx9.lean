-- Written by the session's own program xprint.py, which runs the kit's print over functions given by hand.
import Derived.Test.YtpmclpblnhjjeaaDoorPx0
import Derived.Test.YtpmclpblnhjjeaaDoorPx3
import Derived.Test.YtpmclpblnhjjeaaDoorPx8
namespace Go.Proofs.YtpmclpblnhjjeaaDoor.P
open Go.RowKit Go.Proofs.YtpmclpblnhjjeaaDoorW.PrintWords Go.Proofs.YtpmclpblnhjjeaaDoorW.PrintLast Go.Proofs.YtpmclpblnhjjeaaDoorW.PrintMore
attribute [local go_sem] max2_int min2_int max_two min_two max_three min_three max_four min_four   -- for this text's walks alone
set_option linter.unusedVariables false
set_option linter.unusedSimpArgs false

/-! ### day_Parse: function 30 -/
theorem day_number_calls (s : ByteArray) (n : Int) (hl : s.size ≤ 18) (h : Lib.atoi s.data.toList = some n) (w : World) :
    Calls Tryd.prog 49 #[.string s] w fun e w' => e = .returned (.int .i64 n) ∧ Below w.heap.size w w' := by
  have C := fun v => Tryd.strconv_Atoi s n hl h v
  clear h hl
  go_enter Tryd.func49, Tryd.ntmps49
  go_wp2_with (first | (go_at_call 50; refine (C _).mono ?_; rintro e w' ⟨rfl, t, rfl⟩))
  go_ret
  exact ⟨rfl, Lib.bytesWorld_below _ _ _⟩
def day_Parse.f (k : Nat) (a0 : ByteArray) : Option (Int × Int) := (day_form.f k a0).bind fun t => if t = true then (if a0.size = 10 then (Lib.atoi (a0.extract 0 4).data.toList).bind fun y => (Lib.atoi (a0.extract 5 7).data.toList).bind fun m => (Lib.atoi (a0.extract 8 a0.size).data.toList).bind fun d => (day_of.f k y (wrap64 (m - 1)) d).bind fun bt => (if bt.2 = true then some (bt.1, 0) else some (0, 3)) else none) else some (0, 2)
theorem day_Parse.mono : ∀ a0 k, LeO (day_Parse.f k a0) (day_Parse.f (k + 1) a0) := by
  intro a0 k r h
  unfold day_Parse.f at h ⊢
  obtain ⟨t, ht, h⟩ := Option.bind_eq_some_iff.1 h
  rw [day_form.mono a0 k _ ht, Option.bind_some]
  by_cases c : t = true
  · rw [if_pos c] at h ⊢
    by_cases c2 : a0.size = 10
    · rw [if_pos c2] at h ⊢
      obtain ⟨y, hy, h⟩ := Option.bind_eq_some_iff.1 h
      obtain ⟨m, hm, h⟩ := Option.bind_eq_some_iff.1 h
      obtain ⟨d, hd, h⟩ := Option.bind_eq_some_iff.1 h
      obtain ⟨bt, hb, h⟩ := Option.bind_eq_some_iff.1 h
      rw [hy, Option.bind_some, hm, Option.bind_some, hd, Option.bind_some, day_of.mono y (wrap64 (m - 1)) d k _ hb, Option.bind_some]
      exact h
    · rw [if_neg c2] at h; cases h
  · rw [if_neg c] at h ⊢
    exact h
theorem parse_wrap (x : Int) : IntKind.i64.wrap x = wrap64 x := by
  show (let m := x % (2 ^ IntKind.i64.bits : Int); if IntKind.i64.signed && m ≥ (2 ^ (IntKind.i64.bits - 1) : Int) then m - (2 ^ IntKind.i64.bits : Int) else m) = wrap64 x
  have e1 : (2 : Int) ^ IntKind.i64.bits = 18446744073709551616 := by decide
  have e2 : (2 : Int) ^ (IntKind.i64.bits - 1) = 9223372036854775808 := by decide
  have e3 : IntKind.i64.signed = true := rfl
  rw [e1, e2, e3]
  unfold wrap64
  simp only [Bool.true_and, decide_eq_true_eq]
  split <;> omega
/-- What is kept on the way. -/
def ParseKeep (w w' : World) : Prop := Below w.heap.size w w' ∧ Tabs w'
theorem ParseKeep.refl {w : World} (h : Tabs w) : ParseKeep w w := ⟨Below.refl _ _, h⟩
theorem ParseKeep.below {w v v' : World} (h : ParseKeep w v) (hb : Below v.heap.size v v') : ParseKeep w v' := ⟨below_step h.1 hb, Tabs_below h.2 hb⟩
theorem ParseKeep.drewN {w v : World} (h : ParseKeep w v) (n : Nat) : ParseKeep w (v.drewN n) := ⟨pw_below_drewN h.1 n, Tabs_drewN h.2 n⟩
theorem ParseKeep.drew {w v : World} (h : ParseKeep w v) : ParseKeep w v.drew := ⟨below_drew1 h.1, Tabs_drew h.2⟩
set_option maxHeartbeats 8000000 in
set_option maxRecDepth 100000 in
theorem day_Parse.calls (k : Nat) (a0 : ByteArray) (r1 r2 : Int) (w : World) (hT : Tabs w) (h : day_Parse.f k a0 = some (r1, r2)) :
    Calls Tryd.prog 30 #[.string a0] w fun e w' => e = .returned (.tuple #[.int .i64 r1, .int .i64 r2]) ∧ Below w.heap.size w w' := by
  unfold day_Parse.f at h
  obtain ⟨t, ht, h⟩ := Option.bind_eq_some_iff.1 h
  have S0 := ParseKeep.refl hT
  have F : ∀ v, ParseKeep w v → Calls Tryd.prog 48 #[.string a0] v fun e w' => e = .returned (.bool t) ∧ ParseKeep w w' := fun v hv =>
    (day_form.calls k a0 t v ht).mono fun e w' ⟨he, nd, hw⟩ => ⟨he, hw ▸ hv.drewN nd⟩
  clear ht hT
  cases t with
  | false =>
    rw [if_neg (by simp)] at h
    obtain ⟨rfl, rfl⟩ := Prod.mk.inj (Option.some.inj h)
    clear h
    go_enter Tryd.func30, Tryd.ntmps30
    go_wp2_with (first | (go_at_call 48; refine (F _ S0).mono ?_; rintro e w1 ⟨rfl, S1⟩))
    go_ret2
    exact ⟨rfl, S1.1⟩
  | true =>
    rw [if_pos rfl] at h
    by_cases hs : a0.size = 10
    · rw [if_pos hs] at h
      obtain ⟨y, hy, h⟩ := Option.bind_eq_some_iff.1 h
      obtain ⟨m, hm, h⟩ := Option.bind_eq_some_iff.1 h
      obtain ⟨d, hd, h⟩ := Option.bind_eq_some_iff.1 h
      obtain ⟨⟨b1, b2⟩, hb, h⟩ := Option.bind_eq_some_iff.1 h
      have C1 : ∀ v, ParseKeep w v → Calls Tryd.prog 49 #[.string (a0.extract 0 4)] v fun e w' => e = .returned (.int .i64 y) ∧ ParseKeep w w' := fun v hv =>
        (day_number_calls (a0.extract 0 4) y (by rw [ByteArray.size_extract]; omega) hy v).mono fun e w' ⟨he, hw⟩ => ⟨he, hv.below hw⟩
      have C2 : ∀ v, ParseKeep w v → Calls Tryd.prog 49 #[.string (a0.extract 5 7)] v fun e w' => e = .returned (.int .i64 m) ∧ ParseKeep w w' := fun v hv =>
        (day_number_calls (a0.extract 5 7) m (by rw [ByteArray.size_extract]; omega) hm v).mono fun e w' ⟨he, hw⟩ => ⟨he, hv.below hw⟩
      have C3 : ∀ v, ParseKeep w v → Calls Tryd.prog 49 #[.string (a0.extract 8 a0.size)] v fun e w' => e = .returned (.int .i64 d) ∧ ParseKeep w w' := fun v hv =>
        (day_number_calls (a0.extract 8 a0.size) d (by rw [ByteArray.size_extract]; omega) hd v).mono fun e w' ⟨he, hw⟩ => ⟨he, hv.below hw⟩
      have O : ∀ v, ParseKeep w v → Calls Tryd.prog 36 #[.int .i64 y, .int .i64 (wrap64 (m - 1)), .int .i64 d] v fun e w' => e = .returned (.tuple #[.int .i64 b1, .bool b2]) ∧ ParseKeep w w' := fun v hv =>
        (day_of.calls k y (wrap64 (m - 1)) d b1 b2 v hv.2 hb).mono fun e w' ⟨he, nd, hw⟩ => ⟨he, hw ▸ hv.drewN nd⟩
      have p4 : (4 : Int) ≤ (a0.size : Int) := by omega
      have p7 : (7 : Int) ≤ (a0.size : Int) := by omega
      have p8 : (8 : Int) ≤ (a0.size : Int) := by omega
      have q4 : 4 ≤ a0.size := by omega
      have q7 : 7 ≤ a0.size := by omega
      have q8 : 8 ≤ a0.size := by omega
      clear hy hm hd hb hs
      have hmm := parse_wrap (m - 1)
      generalize wrap64 (m - 1) = mm at O hmm
      cases b2 with
      | true =>
        obtain ⟨rfl, rfl⟩ := Prod.mk.inj (Option.some.inj (show some (b1, (0 : Int)) = some (r1, r2) from h))
        clear h
        go_enter Tryd.func30, Tryd.ntmps30
        go_wp2_with (first | (go_at_call 48; refine (F _ S0).mono ?_; rintro e w1 ⟨rfl, S1⟩))
        go_region_held3 (fun w' => ParseKeep w w') (first | assumption | exact ParseKeep.drew (by assumption) | exact ParseKeep.drewN (by assumption) _) (first | (go_at_call 49; with_reducible refine (C1 _ ?_).mono ?_; with_reducible assumption; rintro e w' ⟨rfl, S2⟩) | (go_at_call 49; with_reducible refine (C2 _ ?_).mono ?_; with_reducible assumption; rintro e w' ⟨rfl, S2⟩) | (go_at_call 49; with_reducible refine (C3 _ ?_).mono ?_; with_reducible assumption; rintro e w' ⟨rfl, S2⟩) | (go_at_call 36; with_reducible refine (O _ ?_).mono ?_; with_reducible assumption; rintro e w' ⟨rfl, S2⟩))
        go_wp2
        go_ret2
        exact ⟨rfl, S2.1⟩
      | false =>
        obtain ⟨rfl, rfl⟩ := Prod.mk.inj (Option.some.inj (show some ((0 : Int), (3 : Int)) = some (r1, r2) from h))
        clear h
        go_enter Tryd.func30, Tryd.ntmps30
        go_wp2_with (first | (go_at_call 48; refine (F _ S0).mono ?_; rintro e w1 ⟨rfl, S1⟩))
        go_region_held3 (fun w' => ParseKeep w w') (first | assumption | exact ParseKeep.drew (by assumption) | exact ParseKeep.drewN (by assumption) _) (first | (go_at_call 49; with_reducible refine (C1 _ ?_).mono ?_; with_reducible assumption; rintro e w' ⟨rfl, S2⟩) | (go_at_call 49; with_reducible refine (C2 _ ?_).mono ?_; with_reducible assumption; rintro e w' ⟨rfl, S2⟩) | (go_at_call 49; with_reducible refine (C3 _ ?_).mono ?_; with_reducible assumption; rintro e w' ⟨rfl, S2⟩) | (go_at_call 36; with_reducible refine (O _ ?_).mono ?_; with_reducible assumption; rintro e w' ⟨rfl, S2⟩))
        go_wp2
        go_ret2
        exact ⟨rfl, S2.1⟩
    · rw [if_neg hs] at h; cases h

end Go.Proofs.YtpmclpblnhjjeaaDoor.P
