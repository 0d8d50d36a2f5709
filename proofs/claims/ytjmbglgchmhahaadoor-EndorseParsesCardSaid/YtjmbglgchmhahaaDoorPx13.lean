-- Written by the session's own program xprint.py, which runs the kit's print over functions given by hand.
import Derived.Test.YtjmbglgchmhahaaDoorPx0
namespace Go.Proofs.YtjmbglgchmhahaaDoor.P
open Go.RowKit Go.Proofs.YtjmbglgchmhahaaDoorW.PrintWords Go.Proofs.YtjmbglgchmhahaaDoorW.PrintLast Go.Proofs.YtjmbglgchmhahaaDoorW.PrintMore
attribute [local go_sem] max2_int min2_int max_two min_two max_three min_three max_four min_four   -- for this text's walks alone
set_option linter.unusedVariables false
set_option linter.unusedSimpArgs false

/-! ### strconv_Atoi: function 32 -/
/-- What Atoi hands back beside its error. -/
def atoiV (l : List UInt8) : Int := match Lib.atoiAll l with | .ok v => v | .range => Lib.atoiSat l | _ => 0
def strconv_Atoi.f (a0 : ByteArray) : Option (Int × Bool) := if a0.size ≤ 281474976710656 then some (atoiV a0.data.toList, false) else none
theorem strconv_Atoi.calls (a0 : ByteArray) (r1 : Int) (r2 : Bool) (w : World) (hT : Tabs w) (h : strconv_Atoi.f a0 = some (r1, r2)) :
  Calls Tryd.prog 32 #[.string a0] w fun e w' => ∃ ev : Value, e = .returned (.tuple #[.int .i64 r1, ev]) ∧ Below w.heap.size w w' := by
 unfold strconv_Atoi.f at h
 split at h
 ·next hs =>
  obtain ⟨rfl, _⟩ := Prod.mk.inj (Option.some.inj h)
  unfold atoiV
  rcases hv : Lib.atoiAll a0.data.toList with v | _ | _
  ·refine (Tryd.strconv_Atoi_ok a0 (by omega) _ hv w).mono fun e w' ⟨he, hw⟩ => ⟨_, he, ?_⟩
   rcases hw with rfl | ⟨t, rfl⟩
   ·exact Below.refl _ _
   ·exact Lib.bytesWorld_below _ _ _
  ·obtain ⟨t, p, hp⟩ := hT.syn
   exact (Tryd.strconv_Atoi_syntax_var a0 hs hv t p w hp).mono fun e w' ⟨N, he, _, _, hb⟩ => ⟨_, he, hb⟩
  ·obtain ⟨t, p, hp⟩ := hT.rng
   exact (Tryd.strconv_Atoi_range_var a0 hs hv t p w hp).mono fun e w' ⟨N, he, _, _, hb⟩ => ⟨_, he, hb⟩
 ·cases h

end Go.Proofs.YtjmbglgchmhahaaDoor.P
