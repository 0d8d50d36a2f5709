/- How a calendar that came in is read: two lists of whole numbers; and what the listed tables give the walks. -/
import Derived.Test.YtpmclpblnhjjeaaDoorPx0
import Derived.Test.YtpmclpblnhjjeaaDoorRows
import Derived.ProofKit
import Derived.OpenShut
import Derived.ShutString
import Derived.Below
import Derived.SizedLaws
import Derived.LaidMore
import Derived.Stop.Joined
import Derived.Deep.Slices
import Derived.Lib.SmallJoins
namespace Go.Proofs.YtpmclpblnhjjeaaDoor.P
open Go.ChangeShapes Go.WideShapes Go.ChangeAt Go.RowKit Go.Deep Go.Joins Go.Proofs.YtpmclpblnhjjeaaDoorW.PrintWords
set_option linter.unusedVariables false

theorem c_int : Tryd.prog.cellsOf 3 = 1 := by kernel_rfl
/-- A slice of whole numbers, by its one cell. -/
theorem open_list {H : Type} {enc : TypeId × Value → H} {w : World} {base : Nat} {sp : Nat → Bool} {held : Bool} {n : Nat} {cs : List Value} {x : DataW H × List MemPlace}
    (h : DataW.trod enc Tryd.prog w base sp held n 29 cs = some x) : ∃ (a : Option Addr) (cap : Nat) (l : List Int), cs = [.slice a l.length cap] ∧ l.length ≤ cap ∧ Kd.C (Kd.int .i64) w a l.length l := by
  rcases open_ints Tryd.underlying29 Tryd.underlying3 c_int h with ⟨hcs, _⟩ | ⟨a, len, cap, zs, hcs, _, hl, hm, hz, _, hcell, hwz⟩
  · exact ⟨none, 0, [], hcs, Nat.le_refl _, rfl, by simp, fun h => absurd h (by simp)⟩
  · have hle : len ≤ zs.length := by rw [hz]; split <;> omega
    have hlen : (zs.take len).length = len := by simp; omega
    refine ⟨some a, cap, zs.take len, by rw [hlen]; exact hcs, by omega, ?_⟩
    refine ⟨rfl, by rw [hlen]; unfold maxLen at hm; omega, fun _ => ⟨a, rfl, fun j q hq => ⟨[.int .i64 q], rfl, rfl, fun i u hu => ?_⟩⟩⟩
    obtain ⟨rfl, rfl⟩ : i = 0 ∧ u = .int .i64 q := by
      cases i with
      | zero => exact ⟨rfl, by simpa using hu.symm⟩
      | succ i => simp at hu
    have hj : j < len := by have := (List.getElem?_eq_some_iff.1 hq).1; omega
    have hc := hcell j (by omega)
    have e : zs.getD j 0 = q := by
      rw [List.getElem?_take, if_pos hj] at hq
      rw [List.getD_eq_getElem?_getD, hq]; rfl
    rw [e] at hc
    show w.cell? (a.add (j * 1 + 0)) = _
    rw [show j * 1 + 0 = j by omega]
    exact hc
theorem open_cal {H : Type} {enc : TypeId × Value → H} {w : World} {base : Nat} {sp : Nat → Bool} {held : Bool} {n : Nat} {cs : List Value} {x : DataW H × List MemPlace}
    (h : DataW.trod enc Tryd.prog w base sp held n 31 cs = some x) :
    ∃ (A0 : Option Addr) (c0 : Nat) (l0 : List Int) (A1 : Option Addr) (c1 : Nat) (l1 : List Int), cs = [.slice A0 l0.length c0, .slice A1 l1.length c1] ∧
      (l0.length ≤ c0 ∧ Kd.C (Kd.int .i64) w A0 l0.length l0) ∧ (l1.length ≤ c1 ∧ Kd.C (Kd.int .i64) w A1 l1.length l1) := by
  obtain ⟨y0, y1, m, _, hl, h0, h1⟩ := trod_struct2 Tryd.underlying31 h
  have hc : Tryd.prog.cellsOf 31 = 2 := by kernel_rfl
  have hs : Tryd.prog.cellsOf 29 = 1 := by kernel_rfl
  rw [hc] at hl
  match cs, hl with
  | [v0, v1], _ =>
    obtain ⟨A0, c0, l0, e0, r0⟩ := open_list h0
    obtain ⟨A1, c1, l1, e1, r1⟩ := open_list h1
    simp [hs] at e0 e1
    exact ⟨A0, c0, l0, A1, c1, l1, by rw [e0, e1], r0, r1⟩

/-- A listed variable, out of the list. -/
theorem laid_at {P : Program} {W : World} : ∀ {L : List (String × DataW Unit)} {ps : List MemPlace}, DataW.LaidVars P W L ps → ∀ x ∈ L, ∃ (g : Nat) (t : TypeId) (cs : Array Value) (fuel : Nat) (p : List MemPlace),
    P.globalNamed x.1 = some g ∧ (P.globals[g]?).map (·.type) = some t ∧ W.var? P x.1 = some cs ∧ DataW.trod (fun _ => ()) P W 0 (fun _ => true) false fuel t cs.toList = some (x.2, p)
  | [], _, _, x, hx => by cases hx
  | (n, d) :: L, ps, h, x, hx => by
    obtain ⟨g, t, cs, fuel, p, q, hg, ht, hv, hd, hr, _⟩ := h
    rcases List.mem_cons.1 hx with rfl | hx
    · exact ⟨g, t, cs, fuel, p, hg, ht, hv, hd⟩
    · exact laid_at hr x hx
/-- One listed table of whole numbers. -/
theorem tab_of {W : World} {L : List (String × DataW Unit)} {name : String} {D : DataW Unit} {k : IntKind} {zs : List Int} {g : Nat} {t e : TypeId} {n : Nat}
    (hg : Tryd.prog.globalNamed name = some g) (hty : (Tryd.prog.globals[g]?).map (·.type) = some t) (ht : Tryd.prog.underlying t = some (.array n e)) (he : Tryd.prog.underlying e = some (.int k)) (hce : Tryd.prog.cellsOf e = 1) (hct : Tryd.prog.cellsOf t = n)
    (hD : D = Lib.tabData k zs) (hm : (name, D) ∈ L) (h : laidMet Tryd.prog L W) : Lib.TabIs Tryd.prog W name k zs := by
  obtain ⟨ps, hl, _⟩ := h
  obtain ⟨g', t', cs, fuel, p, hg', ht', hvar, hd⟩ := laid_at hl _ hm
  obtain rfl := Option.some.inj (hg.symm.trans hg')
  obtain rfl := Option.some.inj (hty.symm.trans ht')
  subst hD
  unfold Lib.TabIs
  rw [hvar, ← Lib.cells_of_tab ht he hce hct hd]
theorem pow10_data : (Rows.laid_internal_strconv_uint64pow10 : DataW Unit) = Lib.tabData .u64 Lib.pow10Tab := by kernel_rfl
theorem months_data : (Rows.laid_supercargo_day_months : DataW Unit) = Lib.tabData .i64 monthsTab := by kernel_rfl
/-- The tables, out of the row's condition. -/
theorem tabs_of {W : World} {L : List (String × DataW Unit)} (hp : ("internal/strconv.uint64pow10", Rows.laid_internal_strconv_uint64pow10) ∈ L) (hm : ("supercargo/day.months", Rows.laid_supercargo_day_months) ∈ L)
    (hn : (L.all fun x => x.2.handleName?.isNone) = true) (h : laidMetH Tryd.prog L W) : Tabs W := by
  rw [MakeChecks.laidMetH_plain _ _ _ hn] at h
  exact ⟨tab_of (g := 3) (by kernel_rfl) (t := 89) (by kernel_rfl) Tryd.underlying89 Tryd.underlying71 (by kernel_rfl) (by kernel_rfl) pow10_data hp h,
    tab_of (g := 0) (by kernel_rfl) (t := 58) (by kernel_rfl) Tryd.underlying58 Tryd.underlying3 (by kernel_rfl) (by kernel_rfl) months_data hm h⟩
end Go.Proofs.YtpmclpblnhjjeaaDoor.P
