-- Written by the session's own program xprint.py, which runs the kit's print over functions given by hand.
import Derived.Test.YtggjphcikcflkaaDoorPx0
namespace Go.Proofs.YtggjphcikcflkaaDoor.P
open Go.RowKit Go.Proofs.YtggjphcikcflkaaDoorW.PrintWords Go.Proofs.YtggjphcikcflkaaDoorW.PrintLast Go.Proofs.YtggjphcikcflkaaDoorW.PrintMore
attribute [local go_sem] max2_int min2_int max_two min_two max_three min_three max_four min_four   -- for this text's walks alone
set_option linter.unusedVariables false
set_option linter.unusedSimpArgs false

/-! ### strconv_ParseInt: function 39 -/
/-- An error value, and whether it is one. -/
def ErrIs (v : Value) (b : Bool) : Prop := (∀ w : World, (binOp .neq 65 v .nilIface).run Tryd.prog w = .ok (.bool b) w) ∧ ∀ (x : Operand) (w : World), (eqGuard .neq 65 x (.const .nilIface) v .nilIface).run Tryd.prog w = .ok () w
theorem errIs_nil : ErrIs .nilIface false := ⟨fun w => by kernel_rfl, fun x w => by rw [eqGuard_nil_constR]; rfl⟩
theorem errIs_some (t : TypeId) (p : Value) : ErrIs (.iface t p) true := ⟨fun w => by kernel_rfl, fun x w => by rw [eqGuard_at_iface]; rfl⟩
def strconv_ParseInt.f (a0 : ByteArray) (a1 a2 : Int) : Option (Int × Bool) := if a0.size ≤ 281474976710656 ∧ a1 = 10 ∧ a2 = 64 then (match Lib.parseIntB 64 a0.data.toList with | .ok v => some (v, false) | .range => some (Lib.intSat 64 a0.data.toList, true) | _ => some (0, true)) else none
theorem strconv_ParseInt.calls (a0 : ByteArray) (a1 a2 : Int) (r1 : Int) (r2 : Bool) (w : World) (hT : Tabs w) (h : strconv_ParseInt.f a0 a1 a2 = some (r1, r2)) :
  Calls Tryd.prog 39 #[.string a0, .int .i64 a1, .int .i64 a2] w fun e w' => ∃ ev : Value, ErrIs ev r2 ∧ e = .returned (.tuple #[.int .i64 r1, ev]) ∧ Below w.heap.size w w' := by
 unfold strconv_ParseInt.f at h
 split at h
 ·next hb =>
  obtain ⟨hs, rfl, rfl⟩ := hb
  rcases hv : Lib.parseIntB 64 a0.data.toList with v | _ | _
  ·rw [hv] at h
   obtain ⟨rfl, rfl⟩ := Prod.mk.inj (Option.some.inj h)
   refine (Tryd.strconv_ParseInt_10_at64_ok a0 (by omega) _ hv w).mono fun e w' ⟨he, hw⟩ => ⟨_, errIs_nil, he, ?_⟩
   rcases hw with rfl | ⟨t, rfl⟩
   ·exact Below.refl _ _
   ·exact Lib.bytesWorld_below _ _ _
  ·rw [hv] at h
   obtain ⟨rfl, rfl⟩ := Prod.mk.inj (Option.some.inj h)
   obtain ⟨t, p, hp⟩ := hT.syn
   exact (Tryd.strconv_ParseInt_10_at64_syntax_var a0 hs hv t p w hp).mono fun e w' ⟨N, he, _, _, hb⟩ => ⟨_, errIs_some _ _, he, hb⟩
  ·rw [hv] at h
   obtain ⟨rfl, rfl⟩ := Prod.mk.inj (Option.some.inj h)
   obtain ⟨t, p, hp⟩ := hT.rng
   exact (Tryd.strconv_ParseInt_10_at64_range_var a0 hs hv t p w hp).mono fun e w' ⟨N, he, _, _, hb⟩ => ⟨_, errIs_some _ _, he, hb⟩
 ·cases h

end Go.Proofs.YtggjphcikcflkaaDoor.P
