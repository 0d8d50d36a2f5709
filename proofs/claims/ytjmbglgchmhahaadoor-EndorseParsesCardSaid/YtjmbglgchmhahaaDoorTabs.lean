/- What the package-level variables hold that the program and the library read, and that they hold it in every later world. -/
import Derived.Test.YtjmbglgchmhahaaDoorProg
import Derived.Test.YtjmbglgchmhahaaDoorShelf
import Derived.Lib.LaidTab
import Derived.Below
import Derived.WalkSmall
import Derived.WalkKit
namespace Go.Proofs.YtjmbglgchmhahaaDoor.P
open Go.RowKit

structure Tabs (w : World) : Prop where
  pow : Lib.TabIs Tryd.prog w "internal/strconv.uint64pow10" .u64 Lib.pow10Tab
  max : ∃ m : Int, w.cell? ⟨0, 0, none⟩ = some (.int .i64 m)
  syn : ∃ (t : TypeId) (p : Value), w.var? Tryd.prog "strconv.ErrSyntax" = some #[.iface t p]
  rng : ∃ (t : TypeId) (p : Value), w.var? Tryd.prog "strconv.ErrRange" = some #[.iface t p]
theorem var_keep {n : String} {cs : Array Value} {w w' : World} (h : w.var? Tryd.prog n = some cs) (hb : Below w.heap.size w w') : w'.var? Tryd.prog n = some cs := by
  unfold World.var? at h ⊢
  cases hg : Tryd.prog.globalNamed n with
  | none => rw [hg] at h; exact h
  | some g =>
    rw [hg] at h
    simp only [Option.bind_some] at h ⊢
    rcases Nat.lt_or_ge g w.heap.size with hlt | hge
    · rw [hb.block g hlt]; exact h
    · rw [Array.getElem?_eq_none hge] at h
      simp at h
theorem Tabs_below {w w' : World} (h : Tabs w) (hb : Below w.heap.size w w') : Tabs w' where
  pow := var_keep h.pow hb
  max := by
    obtain ⟨m, hm⟩ := h.max
    exact ⟨m, (hb.cell (World.block_lt_of_cell? _ _ hm)).trans hm⟩
  syn := let ⟨t, p, hv⟩ := h.syn; ⟨t, p, var_keep hv hb⟩
  rng := let ⟨t, p, hv⟩ := h.rng; ⟨t, p, var_keep hv hb⟩
theorem Tabs_drewN {w : World} (h : Tabs w) (n : Nat) : Tabs (w.drewN n) := ⟨h.pow, h.max, h.syn, h.rng⟩
theorem Tabs_drew {w : World} (h : Tabs w) : Tabs w.drew := ⟨h.pow, h.max, h.syn, h.rng⟩
end Go.Proofs.YtjmbglgchmhahaaDoor.P
