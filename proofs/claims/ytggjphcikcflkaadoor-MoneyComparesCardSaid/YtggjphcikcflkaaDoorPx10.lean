-- Written by the session's own program xprint.py, which runs the kit's print over functions given by hand.
import Derived.Test.YtggjphcikcflkaaDoorPx0
namespace Go.Proofs.YtggjphcikcflkaaDoor.P
open Go.RowKit Go.Proofs.YtggjphcikcflkaaDoorW.PrintWords Go.Proofs.YtggjphcikcflkaaDoorW.PrintLast Go.Proofs.YtggjphcikcflkaaDoorW.PrintMore
attribute [local go_sem] max2_int min2_int max_two min_two max_three min_three max_four min_four   -- for this text's walks alone
set_option linter.unusedVariables false
set_option linter.unusedSimpArgs false

/-! ### strconv_FormatInt: function 36 -/
def strconv_FormatInt.f (a0 a1 : Int) : Option (ByteArray) := if a1 = 10 ∧ -9223372036854775808 ≤ a0 ∧ a0 ≤ 9223372036854775807 then some ⟨(Lib.itoa a0).toArray⟩ else none
theorem strconv_FormatInt.calls (a0 a1 : Int) (r : ByteArray) (w : World) (hT : Tabs w) (h : strconv_FormatInt.f a0 a1 = some r) :
  Calls Tryd.prog 36 #[.int .i64 a0, .int .i64 a1] w fun e w' => e = .returned (.string r) ∧ Below w.heap.size w w' := by
 unfold strconv_FormatInt.f at h
 split at h
 ·next hb =>
  obtain ⟨rfl, h0, h1⟩ := hb
  obtain rfl := Option.some.inj h
  exact (Tryd.strconv_FormatInt_10 a0 h0 h1 w hT.pow).mono fun e w' ⟨he, k, os, hw⟩ => ⟨he, hw ▸ Lib.below_grow _ _ (Nat.le_refl _) _ _⟩
 ·cases h

end Go.Proofs.YtggjphcikcflkaaDoor.P
