/- What the package-level tables hold that the program and strconv read, and that they hold it in every later world. -/
import Derived.Test.YtpmclpblnhjjeaaDoorProg
import Derived.Test.YtpmclpblnhjjeaaDoorShelf
import Derived.Lib.LaidTab
import Derived.Below
import Derived.WalkSmall
import Derived.WalkKit
namespace Go.Proofs.YtpmclpblnhjjeaaDoor.P
open Go.RowKit

def monthsTab : List Int := [31, 28, 31, 30, 31, 30, 31, 31, 30, 31, 30, 31]
def Tabs (w : World) : Prop :=
  Lib.TabIs Tryd.prog w "internal/strconv.uint64pow10" .u64 Lib.pow10Tab ∧ Lib.TabIs Tryd.prog w "supercargo/day.months" .i64 monthsTab
theorem tab_keep {n : String} {k : IntKind} {zs : List Int} {w w' : World} (h : Lib.TabIs Tryd.prog w n k zs) (hb : Below w.heap.size w w') : Lib.TabIs Tryd.prog w' n k zs := by
  unfold Lib.TabIs World.var? at h ⊢
  cases hg : Tryd.prog.globalNamed n with
  | none => rw [hg] at h; exact h
  | some g =>
    rw [hg] at h
    simp only [Option.bind_some] at h ⊢
    rcases Nat.lt_or_ge g w.heap.size with hlt | hge
    · rw [hb.block g hlt]; exact h
    · rw [Array.getElem?_eq_none hge] at h
      simp at h
theorem Tabs_below {w w' : World} (h : Tabs w) (hb : Below w.heap.size w w') : Tabs w' := ⟨tab_keep h.1 hb, tab_keep h.2 hb⟩
theorem Tabs_drewN {w : World} (h : Tabs w) (n : Nat) : Tabs (w.drewN n) := h
theorem Tabs_drew {w : World} (h : Tabs w) : Tabs w.drew := h
theorem Tabs_month {w : World} (h : Tabs w) (i : Nat) (hi : i < 12) : w.cell? ⟨0, i, none⟩ = some (.int .i64 (monthsTab.getD i 0)) :=
  h.2.cell (show Tryd.prog.globalNamed "supercargo/day.months" = some 0 by kernel_rfl) i hi
end Go.Proofs.YtpmclpblnhjjeaaDoor.P
