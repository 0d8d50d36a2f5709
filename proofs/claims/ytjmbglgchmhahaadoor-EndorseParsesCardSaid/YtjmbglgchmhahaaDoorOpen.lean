/- How a slice of endorsements that came in is read; what the listed variables and the world's shape give the walks. -/
import Derived.Test.YtjmbglgchmhahaaDoorPx0
import Derived.ProofKit
import Derived.OpenShut
import Derived.ShutString
import Derived.Below
import Derived.SizedLaws
import Derived.Deep.Slices
import Derived.Lib.SmallJoins
import Derived.Test.YtjmbglgchmhahaaDoorTabs
import Derived.Test.YtjmbglgchmhahaaDoorRows
import Derived.LaidMore
import Derived.Stop.Joined
import Derived.HandedShaped
import Derived.Shelf.Vars
namespace Go.Proofs.YtjmbglgchmhahaaDoor.P
open Go.ChangeShapes Go.WideShapes Go.ChangeAt Go.RowKit Go.Deep Go.Joins Go.Proofs.YtjmbglgchmhahaaDoorW.PrintWords
set_option linter.unusedVariables false

theorem cells4 : Tryd.prog.cellsOf 34 = 4 := by kernel_rfl
set_option maxRecDepth 100000 in
/-- One endorsement's four cells. -/
theorem open_cells {H : Type} {enc : TypeId × Value → H} {w : World} {base : Nat} {sp : Nat → Bool} {held : Bool} {n : Nat} {cs : List Value} {x : DataW H × List MemPlace}
    (h : DataW.trod enc Tryd.prog w base sp held n 34 cs = some x) : ∃ y : S34, cs = [.string y.f0, .string y.f1, .int .i64 y.f2, .int .i64 y.f3] := by
  obtain ⟨y0, y1, y2, y3, m, _, hl, h0, h1, h2, h3⟩ := trod_struct4 Tryd.underlying34 h
  rw [cells4] at hl
  match cs, hl with
  | [c0, c1, c2, c3], _ =>
    have k9 : Tryd.prog.cellsOf 9 = 1 := by kernel_rfl
    have k3 : Tryd.prog.cellsOf 3 = 1 := by kernel_rfl
    obtain ⟨s0, e0, _, _⟩ := DataW.trod_string Tryd.underlying9 h0
    obtain ⟨s1, e1, _, _⟩ := DataW.trod_string Tryd.underlying9 h1
    obtain ⟨n2, e2, _, _⟩ := DataW.trod_int Tryd.underlying3 h2
    obtain ⟨n3, e3, _, _⟩ := DataW.trod_int Tryd.underlying3 h3
    simp [k9, k3] at e0 e1 e2 e3
    exact ⟨⟨s0, s1, n2, n3⟩, by rw [e0, e1, e2, e3]⟩
/-- Cells that are there one behind the other. -/
theorem cells_at {w : World} {base n : Nat} {a : Addr} {cs : List Value} (h : w.cells? base a n = some cs) : cs.length = n ∧ ∀ i u, cs[i]? = some u → w.cell? (a.add i) = some u := by
  obtain ⟨hb, hl, hc⟩ := World.cells?_some h
  exact ⟨hl, fun i u hu => by
    have hi : i < n := by
      have := (List.getElem?_eq_some_iff.1 hu).1
      omega
    rw [hc i hi]; exact hu⟩
theorem open_row {H : Type} {enc : TypeId × Value → H} {w : World} {base : Nat} {sp : Nat → Bool} {held : Bool} {a : Option Addr} {len cap : Nat} {d : DataW H} {p : List MemPlace}
    (h : DataW.Trod enc Tryd.prog w base sp held 22 (.slice a len cap) d p) : ∃ l : List S34, l.length = len ∧ len ≤ cap ∧ Kd.C k34 w a len l := by
  obtain ⟨fuel, hf⟩ := h
  rcases open_slice Tryd.underlying22 hf with ⟨hcs, _⟩ | ⟨x, l, c, m, n, D, Pl, hcs, _, hl, hm, hmm, _, hel⟩
  · simp [Value.cells] at hcs
    obtain ⟨rfl, rfl, rfl⟩ := hcs
    exact ⟨[], rfl, Nat.le_refl _, rfl, by omega, fun h => absurd h (by omega)⟩
  · simp [Value.cells] at hcs
    obtain ⟨rfl, rfl, rfl⟩ := hcs
    have hlm : len ≤ m := by rw [hmm]; split <;> omega
    have hx : ∀ i, i < len → ∃ y : S34, ∀ j u, [Value.string y.f0, .string y.f1, .int .i64 y.f2, .int .i64 y.f3][j]? = some u → w.cell? (x.add (i * 4 + j)) = some u := by
      intro i hi
      obtain ⟨cs, h1, h2⟩ := hel i (by omega)
      obtain ⟨y, rfl⟩ := open_cells h2
      refine ⟨y, fun j u hu => ?_⟩
      have := (cells_at h1).2 j u hu
      rw [cells4, Deep.add_add] at this
      exact this
    haveI : Inhabited S34 := ⟨z34⟩
    obtain ⟨f, hf⟩ := choose_lt hx
    refine ⟨(List.range len).map f, by simp, hl, by simp, by unfold maxLen at hm; omega, fun _ => ⟨x, rfl, fun j q hq => ?_⟩⟩
    obtain ⟨hj, rfl⟩ : j < len ∧ f j = q := by
      have hj : j < len := by have := (List.getElem?_eq_some_iff.1 hq).1; simpa using this
      refine ⟨hj, ?_⟩
      simpa [List.getElem?_map, List.getElem?_range, hj] using hq
    exact ⟨_, rfl, k34_mk w (f j), fun i u hu => hf j hj i u hu⟩
/-- The plain wrap of a row that lists variables, the world's shape kept. -/
theorem row_shaped {H : Type} {enc : TypeId × Value → H} {a : Assume} {C : Checked} {os : Os} {f : FuncId} {fn : Func} {s : ChangeSpec} {conds : List PathCond} {apart fresh handsOn again : Bool} {X : World → Array Value → Prop}
    (hX : ∀ (w w' : World) (args : Array Value), w.heap = w'.heap → X w args → X w' args)
    (own : ownKnob C.prog.godebug = none) (started : os.Started) (noInit : C.prog.inits.idxOf? f = none) (hfn : C.prog.funcs[f]? = some fn)
    (witness : ∃ (w : World) (tape : Tape) (i : Input), w.os = os ∧ (w.forCall tape i).Shaped C.prog ∧ i.vars = [] ∧ Input.okWide C.prog (w.forCall tape i) .any w.heap.size f i ∧
      ((s.pre enc C.prog fn conds apart (w.forCall tape i).memory i.args ∧ X (w.forCall tape i).memory i.args) ∧ sizedMet enc C.prog fn (OpenSpec.ofChange s) apart (w.forCall tape i).memory i.args) ∧ a.holds C.prog (lone (Frame.enter C.prog f i.args .normal) [] (w.forCall tape i)))
    (contract : ∀ (W : World) (base : Nat) (args : Array Value) (ds gs : List (DataW H)) (before : List MemPlace),
      (∀ (j : Nat) t v, fn.params[j]? = some t → args[j]? = some v → Value.okWide C.prog W .any base t v) →
      DataW.Whole enc C.prog fn.params.toList s.vars apart W args.toList ds gs before →
      conds.all (PathCond.test C.prog ⟨fn.params.toList, ds, s.plain.varTypes C.prog, gs⟩) = true →
      (DataW.weightsEach C.prog (fn.params.toList ++ s.plain.varTypes C.prog) (ds ++ gs)).all (· ≤ reachBytes) = true → X W args → W.ShapedOpen C.prog →
      a.holds C.prog (lone (Frame.enter C.prog f args .normal) [] W) →
      Calls C.prog f args W fun e W' => ∃ v, e = .returned v ∧ s.post enc C.prog fn apart fresh handsOn again W args v W') :
    ReturnsInHanded a C os f .any (fun w args => (s.pre enc C.prog fn conds apart w args ∧ X w args) ∧ sizedMet enc C.prog fn (OpenSpec.ofChange s) apart w args) (s.post enc C.prog fn apart fresh handsOn again) := by
  refine returnsInHanded_of_calls own started noInit witness ?_
  intro w tape i _ hsh _ hok hpre hholds
  obtain ⟨_, _, _, fn', hfn', _, _, _, _, hval⟩ := hok
  have e : fn' = fn := Option.some.inj (hfn'.symm.trans hfn)
  subst e
  obtain ⟨⟨⟨ds, gs, before, hw, hc⟩, hx⟩, hz⟩ := hpre
  have hw' := DataW.Whole.of_heap (w' := w.forCall tape i) (by rfl) hw
  refine (contract (w.forCall tape i) w.heap.size i.args ds gs before hval hw' hc (hz.weights hw) (hX _ _ _ (by rfl) hx) hsh hholds).mono fun e W' ⟨v, he, hp⟩ => ?_
  subst he
  exact ChangeSpec.post_blind hp

/-- A listed variable, out of the list. -/
theorem laid_at {P : Program} {W : World} : ∀ {L : List (String × DataW Unit)} {ps : List MemPlace}, DataW.LaidVars P W L ps → ∀ x ∈ L, ∃ (g : Nat) (t : TypeId) (cs : Array Value) (fuel : Nat) (p : List MemPlace),
    P.globalNamed x.1 = some g ∧ (P.globals[g]?).map (·.type) = some t ∧ W.var? P x.1 = some cs ∧ DataW.trod (fun _ => ()) P W 0 (fun _ => true) false fuel t cs.toList = some (x.2, p)
  | [], _, _, x, hx => by cases hx
  | (n, d) :: L, ps, h, x, hx => by
    obtain ⟨g, t, cs, fuel, p, q, hg, ht, hv, hd, hr, _⟩ := h
    rcases List.mem_cons.1 hx with rfl | hx
    · exact ⟨g, t, cs, fuel, p, hg, ht, hv, hd⟩
    · exact laid_at hr x hx
/-- One listed table of whole numbers. -/
theorem tab_of {W : World} {L : List (String × DataW Unit)} {name : String} {D : DataW Unit} {k : IntKind} {zs : List Int} {g : Nat} {t e : TypeId} {n : Nat}
    (hg : Tryd.prog.globalNamed name = some g) (hty : (Tryd.prog.globals[g]?).map (·.type) = some t) (ht : Tryd.prog.underlying t = some (.array n e)) (he : Tryd.prog.underlying e = some (.int k)) (hce : Tryd.prog.cellsOf e = 1) (hct : Tryd.prog.cellsOf t = n)
    (hD : D = Lib.tabData k zs) (hm : (name, D) ∈ L) (h : laidMet Tryd.prog L W) : Lib.TabIs Tryd.prog W name k zs := by
  obtain ⟨ps, hl, _⟩ := h
  obtain ⟨g', t', cs, fuel, p, hg', ht', hvar, hd⟩ := laid_at hl _ hm
  obtain rfl := Option.some.inj (hg.symm.trans hg')
  obtain rfl := Option.some.inj (hty.symm.trans ht')
  subst hD
  unfold Lib.TabIs
  rw [hvar, ← Lib.cells_of_tab ht he hce hct hd]

set_option maxRecDepth 100000 in
theorem iface_of {W : World} {fuel : Nat} {t : TypeId} {cs : List Value} {nm : String} {d : DataW Unit} {p : List MemPlace} {ms} (ht : Tryd.prog.underlying t = some (.interface ms))
    (h : DataW.trod (fun _ => ()) Tryd.prog W 0 (fun _ => true) false fuel t cs = some (.iface nm d, p)) : ∃ u v, cs = [.iface u v] := by
  cases fuel with
  | zero => simp [DataW.trod] at h
  | succ n =>
    unfold DataW.trod at h
    rw [ht] at h
    split at h <;> first | exact ⟨_, _, rfl⟩ | (simp_all; done) | (cases h; done) | skip

set_option maxRecDepth 100000 in
theorem sent_of {W : World} {L : List (String × DataW Unit)} {name nm : String} {D d : DataW Unit} {g : Nat} {t : TypeId} {ms}
    (hg : Tryd.prog.globalNamed name = some g) (hty : (Tryd.prog.globals[g]?).map (·.type) = some t) (ht : Tryd.prog.underlying t = some (.interface ms))
    (hD : D = .iface nm d) (hm : (name, D) ∈ L) (h : laidMet Tryd.prog L W) : ∃ (u : TypeId) (v : Value), W.var? Tryd.prog name = some #[.iface u v] := by
  obtain ⟨ps, hl, _⟩ := h
  obtain ⟨g', t', cs, fuel, p, hg', ht', hvar, hd⟩ := laid_at hl _ hm
  obtain rfl := Option.some.inj (hg.symm.trans hg')
  obtain rfl := Option.some.inj (hty.symm.trans ht')
  subst hD
  obtain ⟨u, v, e⟩ := iface_of ht hd
  refine ⟨u, v, ?_⟩
  rw [hvar]
  congr 1
  cases cs
  simp_all
theorem pow10_data : (Rows.laid_internal_strconv_uint64pow10 : DataW Unit) = Lib.tabData .u64 Lib.pow10Tab := by kernel_rfl

set_option maxRecDepth 100000 in
theorem tabs_of {W : World} {L : List (String × DataW Unit)} (hp : ("internal/strconv.uint64pow10", Rows.laid_internal_strconv_uint64pow10) ∈ L) (hs : ("strconv.ErrSyntax", Rows.laid_strconv_ErrSyntax) ∈ L) (hr : ("strconv.ErrRange", Rows.laid_strconv_ErrRange) ∈ L)
    (hn : (L.all fun x => x.2.handleName?.isNone) = true) (h : laidMetH Tryd.prog L W) (hsh : W.ShapedOpen Tryd.prog) : Tabs W := by
  rw [MakeChecks.laidMetH_plain _ _ _ hn] at h
  exact ⟨tab_of (g := 3) (by kernel_rfl) (t := 104) (by kernel_rfl) Tryd.underlying104 Tryd.underlying86 (by kernel_rfl) (by kernel_rfl) pow10_data hp h,
    cell_of_shapedOpen_int (P := Tryd.prog) (g := 0) (t := 3) (zero := #[.int .i64 0]) hsh (of_decide_eq_true (by kernel_rfl)) (by kernel_rfl) rfl (by kernel_rfl) (by kernel_rfl) Tryd.underlying3,
    sent_of (g := 1) (t := 43) (by kernel_rfl) (by kernel_rfl) Tryd.underlying43 rfl hs h,
    sent_of (g := 2) (t := 43) (by kernel_rfl) (by kernel_rfl) Tryd.underlying43 rfl hr h⟩
end Go.Proofs.YtjmbglgchmhahaaDoor.P
