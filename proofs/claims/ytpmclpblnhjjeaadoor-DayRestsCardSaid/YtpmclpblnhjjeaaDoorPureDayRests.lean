/- The plain law of DayRests. -/
import Derived.Test.YtpmclpblnhjjeaaDoorPureAwake
namespace Go.Proofs.YtpmclpblnhjjeaaDoor.Pure
open Go.RowKit Go.Proofs.YtpmclpblnhjjeaaDoor.P Go.Proofs.YtpmclpblnhjjeaaDoorW.PrintWords Go.Proofs.YtpmclpblnhjjeaaDoorW.PrintLast
theorem DayRests (l0 l1 : List Int) (d : Int) (_ : (Lit.int .i64 d).wf = true) : ∃ k, supercargolaw02_DayRests.f k l0 l1 d = some true := by
  refine ⟨2002, ?_⟩
  unfold supercargolaw02_DayRests.f
  rw [awake_eq (by omega), Option.bind_some, if_pos rfl, heavy_eq, Option.bind_some]
  cases hh : heavy l0 l1
  · obtain ⟨h0, h1⟩ := heavy_no hh
    rw [if_neg (by simp), refIs_eq, Option.bind_some]
    have key : ∀ x, x = (if isDay d = true then Int.tmod d 7 else -1) → supercargolaw02_DayRests.j0 2002 d x l0 l1 = some true := by
      intro x hx
      subst hx
      simp only [supercargolaw02_DayRests.j0]
      rw [may_eq (by omega) (by omega) (by omega), refMay_eq (by omega) (by omega) (by omega), Rests_eq (by omega) (by omega) d (by omega), refRests_eq (by omega) (by omega) d (by omega)]
      unfold day_Weekday.f
      rw [is_eq]
      cases isDay d <;> simp [supercargolaw02_DayRests.j1]
    cases hd : isDay d
    · exact key _ (by rw [hd]; rfl)
    · exact key _ (by rw [hd]; rfl)
  · rfl
end Go.Proofs.YtpmclpblnhjjeaaDoor.Pure
