-- Written by the session's own program xprint.py, which runs the kit's print over functions given by hand.
import Derived.Test.YtggjphcikcflkaaDoorPx0
namespace Go.Proofs.YtggjphcikcflkaaDoor.P
open Go.RowKit Go.Proofs.YtggjphcikcflkaaDoorW.PrintWords Go.Proofs.YtggjphcikcflkaaDoorW.PrintLast Go.Proofs.YtggjphcikcflkaaDoorW.PrintMore
attribute [local go_sem] max2_int min2_int max_two min_two max_three min_three max_four min_four   -- for this text's walks alone
set_option linter.unusedVariables false
set_option linter.unusedSimpArgs false

/-! ### money_currency: function 45 -/
namespace MoneyCur
def out (r : Nat) : Bool := decide (r < 65) || decide (90 < r)
def curB (s : ByteArray) : Bool := decide (s.size = 3) && !decide (0 ≤ Lib.idxFunc out true s)
theorem letter (w : World) : PredAt Tryd.prog 68 #[] encR out w := fun W r _ => by
 unfold FnGives
 by_cases h1 : r < 65 <;> by_cases h2 : 90 < r
 all_goals
  have z1 : (r : Int) < 65 ↔ r < 65 := by omega
  have z2 : (90 : Int) < (r : Int) ↔ 90 < r := by omega
  go_enter Tryd.func68, Tryd.ntmps68
  go_wp2
  all_goals first | (exfalso; omega) | (go_ret; exact ⟨by simp [out, h1, h2], 0, rfl⟩)
theorem func_calls (s : ByteArray) (b : Bool) (hb : decide (0 ≤ Lib.idxFunc out true s) = b) (w : World) :
  Calls Tryd.prog 67 #[.string s, .func (.func 68) #[] #[]] w fun e w' => e = .returned (.bool b) ∧ Below w.heap.size w w' := by
 subst hb
 exact Tryd.strings_ContainsFunc 68 #[] (enters_of Tryd.func68 (by kernel_rfl) rfl) out s w (letter w)
end MoneyCur
def money_currency.f (a0 : ByteArray) : Option (Bool) := some (MoneyCur.curB a0)
theorem money_currency.calls (a0 : ByteArray) (r : Bool) (w : World) (h : money_currency.f a0 = some r) :
  Calls Tryd.prog 45 #[.string a0] w fun e w' => e = .returned (.bool r) ∧ Below w.heap.size w w' := by
 obtain rfl := Option.some.inj h
 clear h
 by_cases h3 : a0.size = 3
 ·have e3 : ((a0.size : Int) == 3) = true := by simp [h3]
  rcases hb : decide (0 ≤ Lib.idxFunc MoneyCur.out true a0) with _ | _
  ·have F := Lib.hid (show MoneyCur.curB a0 = true by unfold MoneyCur.curB; rw [hb]; simp [h3])
   have C := MoneyCur.func_calls a0 false hb
   clear hb h3
   go_enter Tryd.func45, Tryd.ntmps45
   go_wp2_with (first | (go_at_call 67; refine (C _).mono ?_; rintro e w1 ⟨rfl, hb1⟩))
   go_ret
   exact ⟨by rw [F.out] <;> rfl, hb1⟩
  ·have F := Lib.hid (show MoneyCur.curB a0 = false by unfold MoneyCur.curB; rw [hb]; simp)
   have C := MoneyCur.func_calls a0 true hb
   clear hb h3
   go_enter Tryd.func45, Tryd.ntmps45
   go_wp2_with (first | (go_at_call 67; refine (C _).mono ?_; rintro e w1 ⟨rfl, hb1⟩))
   go_ret
   exact ⟨by rw [F.out] <;> rfl, hb1⟩
 ·have e3 : ((a0.size : Int) == 3) = false := by simp; omega
  have F := Lib.hid (show MoneyCur.curB a0 = false by unfold MoneyCur.curB; simp [h3])
  clear h3
  go_enter Tryd.func45, Tryd.ntmps45
  go_wp2
  go_ret
  exact ⟨by rw [F.out] <;> rfl, Below.refl _ _⟩

end Go.Proofs.YtggjphcikcflkaaDoor.P
