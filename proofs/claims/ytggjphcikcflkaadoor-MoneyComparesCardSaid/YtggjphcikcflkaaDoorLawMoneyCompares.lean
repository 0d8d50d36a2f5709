/- The law MoneyCompares, tied: whatever the input the call returns true and each argument reads as it read before, where the listed package-level variables hold what the program's text lays in them. -/
import Derived.Test.YtggjphcikcflkaaDoorRows
import Derived.Test.YtggjphcikcflkaaDoorTie
import Derived.Test.YtggjphcikcflkaaDoorCards
import Derived.Test.YtggjphcikcflkaaDoorOpen
import Derived.Test.YtggjphcikcflkaaDoorPureMoneyCompares
import Derived.WalkKit
import Derived.ProofKit
import Derived.OpenShut
import Derived.ShutString
import Derived.ChangeOld
import Derived.Below
import Derived.SizedLaws
import Derived.LaidMore
import Derived.Stop.Joined
import Derived.SevenTiedAt
import Derived.Lay
import Derived.LaidOnce
namespace Go.Proofs.YtggjphcikcflkaaDoor.moneyCompares
open Go.ChangeShapes Go.WideShapes Go.ChangeAt Go.RowKit
open Go.ChangeMaps (open_string shut_string)
set_option linter.unusedVariables false
theorem own : ownKnob Tryd.prog.godebug = none := by kernel_rfl
theorem laidOut : laidOutB Tryd.prog = true := by kernel_rfl
set_option maxRecDepth 100000 in
theorem lifted (os : Os) (started : os.Started) (H : Type) (enc : TypeId × Value → H) :
    ReturnsInHanded {} Tryd.checked os 10 .any (fun w args => (Rows.moneyComparesSpec.pre enc Tryd.prog Tryd.f10 [] false w args ∧ laidMetH Tryd.prog Rows.moneyComparesRow.laid w) ∧ sizedMet enc Tryd.prog Tryd.f10 (OpenSpec.ofChange Rows.moneyComparesSpec) false w args)
      (Rows.moneyComparesSpec.post enc Tryd.prog Tryd.f10 false true false false) := by
  refine P.row_shaped (C := Tryd.checked) (X := fun w _ => laidMetH Tryd.prog Rows.moneyComparesRow.laid w) (fun _ _ _ hh h => h.of_heap hh) own started (by kernel_rfl) Tryd.func10
    (ChangeSpec.witness_shaped (enc := enc) (C := Tryd.checked) (os := os) (X := fun w _ => laidMetH Tryd.prog Rows.moneyComparesRow.laid w) false (World.laidAll Tryd.prog os Rows.moneyComparesRow.laid) #[.agg #[.int .i64 0, .int .i64 0], .agg #[.int .i64 0, .int .i64 0]] 8 (World.laidAll_os _ _ _) (World.shaped_of_ZipB (by kernel_rfl) (by kernel_rfl)) (by kernel_rfl) (by kernel_rfl) (by kernel_rfl) (by rw [MakeChecks.laidMetH_plain _ _ _ (by kernel_rfl)]; exact laidMet_laidAll _ (by kernel_rfl) (by kernel_rfl))) ?_
  intro W base args ds gs before hval0 hW _ hsz0 hL hsh _
  have hsz : (DataW.weightsEach Tryd.prog (Tryd.f10.params.toList ++ Rows.moneyComparesSpec.plain.varTypes Tryd.prog) (ds ++ gs)).all (· ≤ reachBytes) = true := hsz0
  have hval : ∀ (j : Nat) t v, Tryd.f10.params[j]? = some t → args[j]? = some v → Value.okWide Tryd.prog W .any base t v := hval0
  have hW' := hW
  obtain ⟨p, q, hA0, hV, rfl, hfz, hnd⟩ := hW
  have hA : DataW.TrodAll enc Tryd.prog W 0 (fun _ => true) true Tryd.f10.params.toList args.toList ds p := hA0
  rw [Tryd.params10] at hA hval hsz
  obtain ⟨v0, vs0, d0, ds0, p0, q0, hargs, rfl, rfl, h0, r0⟩ := trodAll_cons hA
  obtain ⟨v1, vs1, d1, ds1, p1, q1, rfl, rfl, rfl, h1, r1⟩ := trodAll_cons r0
  obtain ⟨rfl, rfl, rfl⟩ := trodAll_nil r1
  obtain rfl : args = #[v0, v1] := by cases args; simp_all
  obtain ⟨rfl, rfl⟩ := trodVars_none hV
  have lt0 : ∀ x ∈ p0, x.block < W.heap.size := by obtain ⟨m, hm⟩ := h0; exact DataW.trod_lt m _ _ _ hm
  have k0 := h0
  obtain ⟨cs0, rfl, hs0⟩ := okWide_struct Tryd.underlying25 (hval 0 25 v0 rfl rfl)
  obtain ⟨m0, hm0⟩ := h0
  obtain ⟨a_0, b_0, hy0, wa_0, wb_0⟩ := P.open_ratio (cs := cs0.toList) (by simpa [Value.cells] using hm0)
  obtain rfl : cs0 = #[.int .i64 a_0, .int .i64 b_0] := by cases cs0; simp_all
  have lt1 : ∀ x ∈ p1, x.block < W.heap.size := by obtain ⟨m, hm⟩ := h1; exact DataW.trod_lt m _ _ _ hm
  have k1 := h1
  obtain ⟨cs1, rfl, hs1⟩ := okWide_struct Tryd.underlying25 (hval 1 25 v1 rfl rfl)
  obtain ⟨m1, hm1⟩ := h1
  obtain ⟨a_1, b_1, hy1, wa_1, wb_1⟩ := P.open_ratio (cs := cs1.toList) (by simpa [Value.cells] using hm1)
  obtain rfl : cs1 = #[.int .i64 a_1, .int .i64 b_1] := by cases cs1; simp_all
  have hT : P.Tabs W := P.tabs_of (by simp [Rows.moneyComparesRow]) (by simp [Rows.moneyComparesRow]) (by simp [Rows.moneyComparesRow]) (by kernel_rfl) hL hsh
  clear hA0 hval0 hsz0 hsz
  obtain ⟨k, hk⟩ := Pure.MoneyCompares a_0 b_0 a_1 b_1 wa_0 wb_0 wa_1 wb_1
  refine (P.supercargolaw01_MoneyCompares.calls k a_0 b_0 a_1 b_1 true W hT  hk).mono fun e W' ⟨he, bel⟩ => ?_
  subst he
  exact ⟨_, rfl, _, _, _, [], _, [], hW', trodAll_mk1 (shut_bool Tryd.underlying4 _), (trodAll_cons_mk (Below.trod laidOut (by kernel_rfl) (of_decide_eq_true (by kernel_rfl)) k0 bel lt0) (trodAll_cons_mk (Below.trod laidOut (by kernel_rfl) (of_decide_eq_true (by kernel_rfl)) k1 bel lt1) trodAll_mk0)), rfl, bel.frame _, fun h => by cases h⟩
theorem over : Rows.moneyComparesRow.holds Tryd.pinned (OpenSpec.ofChange Rows.moneyComparesSpec) :=
  OpenClaim.holds_of_wide 10 Tryd.f10 rfl rfl rfl rfl rfl rfl rfl ⟨rfl, rfl, rfl, rfl, rfl⟩ rfl rfl rfl rfl rfl (by kernel_rfl) Tryd.func10 (by kernel_rfl)
    (of_decide_eq_true (by kernel_rfl)) (by unfold Func.isWrapper; first | (rw [if_pos (by decide +kernel)]; kernel_rfl) | (rw [if_neg (by decide +kernel)]; exact ⟨rfl, rfl⟩))
    (fun os started H enc _ => lifted os started H enc)
theorem proved : Rows.MoneyComparesCardSaid :=
  Claim7.holds_tied_plain_at .later [] [.data, .data, .data, .data, .sentinel, .sentinel, .pinned] true (true, "54ac33948091d4c194ff88725d1fa59263d725a5c3042eebdc3aa3738a8bbf4a") true
    over (fun _ h => by cases h) (by kernel_rfl) (fun _ h => by cases h) moneyCompares_row_tie rfl ⟨rfl, rfl⟩ (by kernel_rfl) rfl
    (fun f fn hf hfn => by
      obtain rfl : f = 10 := Option.some.inj ((show Tryd.prog.funcNamed "supercargo/supercargolaw01.MoneyCompares" = some 10 by kernel_rfl).symm.trans hf) |>.symm
      obtain rfl : fn = Tryd.f10 := (Option.some.inj (Tryd.func10.symm.trans hfn)).symm
      exact ⟨by kernel_rfl, fun j t ht => by
        rw [Tryd.params10] at ht
        have hm : t ∈ [25, 25] := by simpa using Array.mem_of_getElem? ht
        have hall : ([25, 25].all fun u => !Tryd.prog.wantsStandIn u) = true := by kernel_rfl
        exact (show Tryd.prog.wantsStandIn t = false by simpa using List.all_eq_true.1 hall t hm)⟩)
    (by kernel_rfl)
end Go.Proofs.YtggjphcikcflkaaDoor.moneyCompares
namespace Go.Proofs.YtggjphcikcflkaaDoor
/-- The card, under a short name, for the claim. -/
theorem moneyCompares_holds : Rows.MoneyComparesCardSaid := moneyCompares.proved
#print axioms moneyCompares_holds
end Go.Proofs.YtggjphcikcflkaaDoor
