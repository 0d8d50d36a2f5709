-- Written by the session's own program xprint.py, which runs the kit's print over functions given by hand.
import Derived.Test.YtggjphcikcflkaaDoorPx0
namespace Go.Proofs.YtggjphcikcflkaaDoor.P
open Go.RowKit Go.Proofs.YtggjphcikcflkaaDoorW.PrintWords Go.Proofs.YtggjphcikcflkaaDoorW.PrintLast Go.Proofs.YtggjphcikcflkaaDoorW.PrintMore
attribute [local go_sem] max2_int min2_int max_two min_two max_three min_three max_four min_four   -- for this text's walks alone
set_option linter.unusedVariables false
set_option linter.unusedSimpArgs false

/-! ### strings_Replace: function 40 -/
def strings_Replace.f (a0 a1 a2 : ByteArray) (a3 : Int) : Option (ByteArray) := if a0.size < 4294967281 ∧ 1 ≤ a1.size ∧ a0.size + Lib.countB a0 a1 * a2.size ≤ 140737488355328 then some ⟨(Lib.replace a0.data.toList a1.data.toList a2.data.toList a3).toArray⟩ else none
theorem strings_Replace.calls (a0 a1 a2 : ByteArray) (a3 : Int) (r : ByteArray) (w : World) (hT : Tabs w) (h : strings_Replace.f a0 a1 a2 a3 = some r) :
  Calls Tryd.prog 40 #[.string a0, .string a1, .string a2, .int .i64 a3] w fun e w' => e = .returned (.string r) ∧ Below w.heap.size w w' := by
 unfold strings_Replace.f at h
 split at h
 ·next hb =>
  obtain rfl := Option.some.inj h
  obtain ⟨m, hm⟩ := hT.max
  exact Tryd.strings_Replace a0 a1 a2 a3 m w hb.1 hm hb.2.1 hb.2.2
 ·cases h

end Go.Proofs.YtggjphcikcflkaaDoor.P
