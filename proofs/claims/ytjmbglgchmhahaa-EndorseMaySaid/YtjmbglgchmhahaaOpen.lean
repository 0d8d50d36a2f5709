/- How a slice of endorsements, and one endorsement, that came in are read: as a list of Lean structures. -/
import Derived.Test.YtjmbglgchmhahaaPx0
import Derived.ProofKit
import Derived.OpenShut
import Derived.ShutString
import Derived.Below
import Derived.SizedLaws
import Derived.Deep.Slices
import Derived.Lib.SmallJoins
namespace Go.Proofs.Ytjmbglgchmhahaa.P
open Go.ChangeShapes Go.WideShapes Go.ChangeAt Go.RowKit Go.Deep Go.Joins Go.Proofs.YtjmbglgchmhahaaW.PrintWords
set_option linter.unusedVariables false

theorem cells4 : Try.prog.cellsOf 31 = 4 := by kernel_rfl
/-- One endorsement's four cells. -/
theorem open_cells {H : Type} {enc : TypeId × Value → H} {w : World} {base : Nat} {sp : Nat → Bool} {held : Bool} {n : Nat} {cs : List Value} {x : DataW H × List MemPlace}
    (h : DataW.trod enc Try.prog w base sp held n 31 cs = some x) : ∃ y : S31, cs = [.string y.f0, .string y.f1, .int .i64 y.f2, .int .i64 y.f3] := by
  obtain ⟨y0, y1, y2, y3, m, _, hl, h0, h1, h2, h3⟩ := trod_struct4 Try.underlying31 h
  rw [cells4] at hl
  match cs, hl with
  | [c0, c1, c2, c3], _ =>
    have k9 : Try.prog.cellsOf 9 = 1 := by kernel_rfl
    have k3 : Try.prog.cellsOf 3 = 1 := by kernel_rfl
    obtain ⟨s0, e0, _, _⟩ := DataW.trod_string Try.underlying9 h0
    obtain ⟨s1, e1, _, _⟩ := DataW.trod_string Try.underlying9 h1
    obtain ⟨n2, e2, _, _⟩ := DataW.trod_int Try.underlying3 h2
    obtain ⟨n3, e3, _, _⟩ := DataW.trod_int Try.underlying3 h3
    simp [k9, k3] at e0 e1 e2 e3
    exact ⟨⟨s0, s1, n2, n3⟩, by rw [e0, e1, e2, e3]⟩
/-- Cells that are there one behind the other. -/
theorem cells_at {w : World} {base n : Nat} {a : Addr} {cs : List Value} (h : w.cells? base a n = some cs) : cs.length = n ∧ ∀ i u, cs[i]? = some u → w.cell? (a.add i) = some u := by
  obtain ⟨hb, hl, hc⟩ := World.cells?_some h
  exact ⟨hl, fun i u hu => by
    have hi : i < n := by
      have := (List.getElem?_eq_some_iff.1 hu).1
      omega
    rw [hc i hi]; exact hu⟩
theorem open_row {H : Type} {enc : TypeId × Value → H} {w : World} {base : Nat} {sp : Nat → Bool} {held : Bool} {a : Option Addr} {len cap : Nat} {d : DataW H} {p : List MemPlace}
    (h : DataW.Trod enc Try.prog w base sp held 22 (.slice a len cap) d p) : ∃ l : List S31, l.length = len ∧ len ≤ cap ∧ Kd.C k31 w a len l := by
  obtain ⟨fuel, hf⟩ := h
  rcases open_slice Try.underlying22 hf with ⟨hcs, _⟩ | ⟨x, l, c, m, n, D, Pl, hcs, _, hl, hm, hmm, _, hel⟩
  · simp [Value.cells] at hcs
    obtain ⟨rfl, rfl, rfl⟩ := hcs
    exact ⟨[], rfl, Nat.le_refl _, rfl, by omega, fun h => absurd h (by omega)⟩
  · simp [Value.cells] at hcs
    obtain ⟨rfl, rfl, rfl⟩ := hcs
    have hlm : len ≤ m := by rw [hmm]; split <;> omega
    have hx : ∀ i, i < len → ∃ y : S31, ∀ j u, [Value.string y.f0, .string y.f1, .int .i64 y.f2, .int .i64 y.f3][j]? = some u → w.cell? (x.add (i * 4 + j)) = some u := by
      intro i hi
      obtain ⟨cs, h1, h2⟩ := hel i (by omega)
      obtain ⟨y, rfl⟩ := open_cells h2
      refine ⟨y, fun j u hu => ?_⟩
      have := (cells_at h1).2 j u hu
      rw [cells4, Deep.add_add] at this
      exact this
    haveI : Inhabited S31 := ⟨z31⟩
    obtain ⟨f, hf⟩ := choose_lt hx
    refine ⟨(List.range len).map f, by simp, hl, by simp, by unfold maxLen at hm; omega, fun _ => ⟨x, rfl, fun j q hq => ?_⟩⟩
    obtain ⟨hj, rfl⟩ : j < len ∧ f j = q := by
      have hj : j < len := by have := (List.getElem?_eq_some_iff.1 hq).1; simpa using this
      refine ⟨hj, ?_⟩
      simpa [List.getElem?_map, List.getElem?_range, hj] using hq
    exact ⟨_, rfl, k31_mk w (f j), fun i u hu => hf j hj i u hu⟩
end Go.Proofs.Ytjmbglgchmhahaa.P
