/- The n-th day on or back, as it is asked for, in plain Lean. -/
import Derived.Test.YtpmclpblnhjjeaaDoorPureWalk
import Derived.Test.YtpmclpblnhjjeaaDoorPx6
import Derived.Test.YtpmclpblnhjjeaaDoorPx10
namespace Go.Proofs.YtpmclpblnhjjeaaDoor.Pure
open Go.RowKit Go.Proofs.YtpmclpblnhjjeaaDoor.P Go.Proofs.YtpmclpblnhjjeaaDoorW.PrintWords Go.Proofs.YtpmclpblnhjjeaaDoorW.PrintLast

theorem Next_eq {l0 l1 : List Int} (x : Int) (k : Nat) : day_Next.f k l0 l1 x = day_along.f k l0 l1 x 1 1 := by
  unfold day_Next.f
  cases day_along.f k l0 l1 x 1 1 <;> rfl
theorem Last_eq {l0 l1 : List Int} (x : Int) (k : Nat) : day_Last.f k l0 l1 x = day_along.f k l0 l1 x 1 (-1) := by
  unfold day_Last.f
  cases day_along.f k l0 l1 x 1 (-1) <;> rfl
theorem Add_no {l0 l1 : List Int} {x n : Int} (h : isDay x = false ∨ n < -1048576 ∨ n > 1048576) {k : Nat} : day_Add.f (k + 1) l0 l1 x n = some (0, false) := by
  unfold day_Add.f
  rw [is_eq, Option.bind_some]
  have j : day_Add.j0 (k + 1) x n true l0 l1 = some (0, false) := by simp only [day_Add.j0, ↓reduceIte]
  cases hd : isDay x
  · rw [if_neg (by simp), j]
  · rw [if_pos rfl]
    by_cases h1 : n < -1048576
    · rw [if_pos h1, j]
    · rw [if_neg h1, decide_eq_true (by rw [hd] at h; simp at h; omega), j]
theorem Add_eq {l0 l1 : List Int} {x n : Int} (hx : isDay x = true) (h1 : -1048576 ≤ n) (h2 : n ≤ 1048576) {k : Nat} : day_Add.f (k + 1) l0 l1 x n =
    if n = 0 then day_along.f k l0 l1 x 1 1 else if n < 0 then day_along.f k l0 l1 (wrap64 (x + -1)) (wrap64 (-n)) (-1) else day_along.f k l0 l1 (wrap64 (x + 1)) n 1 := by
  unfold day_Add.f
  rw [is_eq, Option.bind_some, hx, if_pos rfl, if_neg (by omega), decide_eq_false (by omega)]
  simp only [day_Add.j0]
  rw [if_neg (by simp), Next_eq, Int.sub_eq_add_neg]
  by_cases c : n = 0
  · rw [if_pos c, if_pos c]
    cases day_along.f k l0 l1 x 1 1 <;> rfl
  · rw [if_neg c, if_neg c]
    by_cases c2 : n < 0
    · rw [if_pos c2, if_pos c2]
      cases day_along.f k l0 l1 (wrap64 (x + -1)) (wrap64 (-n)) (-1) <;> rfl
    · rw [if_neg c2, if_neg c2]
      cases day_along.f k l0 l1 (wrap64 (x + 1)) n 1 <;> rfl
end Go.Proofs.YtpmclpblnhjjeaaDoor.Pure
