-- Written by the session's own program xprint.py, which runs the kit's print over functions given by hand.
import Derived.Test.YtpmclpblnhjjeaaDoorPx0
import Derived.Test.YtpmclpblnhjjeaaDoorPx1
namespace Go.Proofs.YtpmclpblnhjjeaaDoor.P
open Go.RowKit Go.Proofs.YtpmclpblnhjjeaaDoorW.PrintWords Go.Proofs.YtpmclpblnhjjeaaDoorW.PrintLast Go.Proofs.YtpmclpblnhjjeaaDoorW.PrintMore
attribute [local go_sem] max2_int min2_int max_two min_two max_three min_three max_four min_four   -- for this text's walks alone
set_option linter.unusedVariables false
set_option linter.unusedSimpArgs false

/-! ### day_month: function 35 -/
def day_month.f (a0 a1 : Int) : Option (Int) :=
  if 0 ≤ a1 ∧ a1 < 12 then (if a1 = 1 then (day_leap.f a0).bind fun t => some (if t = true then 29 else 28) else some (monthsTab.getD a1.toNat 0)) else none
set_option maxHeartbeats 1000000 in
theorem day_month.calls (a0 a1 : Int) (r : Int) (w : World) (hT : Tabs w) (h : day_month.f a0 a1 = some r) :
    Calls Tryd.prog 35 #[.int .i64 a0, .int .i64 a1] w fun e w' => e = .returned (.int .i64 r) ∧ Drawn0 w w' := by
  unfold day_month.f at h
  by_cases hb : 0 ≤ a1 ∧ a1 < 12
  · rw [if_pos hb] at h
    obtain ⟨n, rfl⟩ : ∃ n : Nat, a1 = n := ⟨a1.toNat, by omega⟩
    have hn : n < 12 := by omega
    have hc := Tabs_month hT n hn
    clear hT hb
    by_cases h1 : (n : Int) = 1
    · obtain rfl : n = 1 := by omega
      rw [if_pos h1] at h
      obtain ⟨t, ht, h⟩ := Option.bind_eq_some_iff.1 h
      have C := day_leap.calls a0 t w ht
      have hc1 : w.cell? ⟨0, 1, none⟩ = some (.int .i64 28) := hc
      clear hc h1 ht
      cases t with
      | true =>
        obtain rfl : 29 = r := by simpa using h
        clear h
        go_enter Tryd.func35, Tryd.ntmps35
        go_wp2_with (first | (go_at_call 53; refine C.mono ?_; rintro e w' ⟨rfl, ⟨nd, rfl⟩⟩))
        go_ret
        exact ⟨rfl, ⟨_, rfl⟩⟩
      | false =>
        obtain rfl : 28 = r := by simpa using h
        clear h
        go_enter Tryd.func35, Tryd.ntmps35
        go_wp2_with (first | (go_at_call 53; refine C.mono ?_; rintro e w' ⟨rfl, ⟨nd, rfl⟩⟩))
        go_ret
        exact ⟨rfl, ⟨_, rfl⟩⟩
    · rw [if_neg h1] at h
      have e1 : ((n : Int) == 1) = false := by simpa using h1
      rw [Int.toNat_natCast] at h
      generalize hv : monthsTab.getD n 0 = v at hc h
      obtain rfl := Option.some.inj h
      clear h h1 hv
      have p0 : (0 : Int) ≤ (n : Int) := by omega
      go_enter Tryd.func35, Tryd.ntmps35
      go_wp2
      go_ret
      exact ⟨rfl, Drawn0.refl _⟩
  · rw [if_neg hb] at h
    cases h

end Go.Proofs.YtpmclpblnhjjeaaDoor.P
