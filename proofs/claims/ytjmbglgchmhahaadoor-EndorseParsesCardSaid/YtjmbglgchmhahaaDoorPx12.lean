-- Written by the session's own program xprint.py, which runs the kit's print over functions given by hand.
import Derived.Test.YtjmbglgchmhahaaDoorPx0
namespace Go.Proofs.YtjmbglgchmhahaaDoor.P
open Go.RowKit Go.Proofs.YtjmbglgchmhahaaDoorW.PrintWords Go.Proofs.YtjmbglgchmhahaaDoorW.PrintLast Go.Proofs.YtjmbglgchmhahaaDoorW.PrintMore
attribute [local go_sem] max2_int min2_int max_two min_two max_three min_three max_four min_four   -- for this text's walks alone
set_option linter.unusedVariables false
set_option linter.unusedSimpArgs false

/-! ### strings_Split: function 31 -/
def strings_Split.f (a0 a1 : ByteArray) : Option (List ByteArray) := if a0.size < 4294967281 ∧ 1 ≤ a1.size then some (Lib.splitB a1 0 (Lib.countB a0 a1) a0) else none
theorem strings_Split.calls (a0 a1 : ByteArray) (r : List ByteArray) (w : World) (hT : Tabs w) (h : strings_Split.f a0 a1 = some r) :
  Calls Tryd.prog 31 #[.string a0, .string a1] w fun e w' => ∃ v0_ : Value, e = .returned (v0_) ∧ Kd.R Kd.string 9 w' w.heap.size (fun _ => True) v0_ r ∧ Below w.heap.size w w' := by
 unfold strings_Split.f at h
 split at h
 ·next hb =>
  obtain rfl := Option.some.inj h
  obtain ⟨m, hm⟩ := hT.max
  have hl := Lib.splitB_all a1 hb.2 0 (Lib.countB a0 a1) a0 rfl
  have hc := Lib.countB_le a1 hb.2 a0.size a0 (Nat.le_refl _)
  have hs := hb.1
  refine (Tryd.strings_Split a0 a1 m w hb.1 hm hb.2).mono fun e w' ⟨he, hw⟩ => ⟨_, he, ?_, ?_⟩
  ·subst hw
   refine Kd.R_of_own ?_ (fun _ _ => trivial)
   rw [hl]
   exact World.ownsRow_lit (base := w.heap.size) (e := 9) (size := 1) w _ (Lib.countB a0 a1 + 1) (Nat.le_refl _) (by unfold maxLen; omega) (by simp [hl])
  ·subst hw
   exact below_alloc (Below.refl _ _) _
 ·cases h

end Go.Proofs.YtjmbglgchmhahaaDoor.P
