-- Written by the session's own program xprint.py, which runs the kit's print over functions given by hand.
import Derived.Test.YtjmbglgchmhahaaDoorPx0
import Derived.Test.YtjmbglgchmhahaaDoorPx6
namespace Go.Proofs.YtjmbglgchmhahaaDoor.P
open Go.RowKit Go.Proofs.YtjmbglgchmhahaaDoorW.PrintWords Go.Proofs.YtjmbglgchmhahaaDoorW.PrintLast Go.Proofs.YtjmbglgchmhahaaDoorW.PrintMore
attribute [local go_sem] max2_int min2_int max_two min_two max_three min_three max_four min_four   -- for this text's walks alone
set_option linter.unusedVariables false
set_option linter.unusedSimpArgs false

/-! ### endorse_line: function 15 -/
namespace Line
section
variable {P : Program} {ops : Array Oper} {o : Oper} {rest : List Oper} {a : Act} {Q : Exit → Act → World → Prop}
theorem made_event {W : World} (hgd : o.guard = none) {N : Tmp} (_hd : o.dst = some N) {t : TypeId} (ho : o.op = .makeMap t none)
  (h : ∀ b, b = W.heap.size → ∀ w1, w1 = W.alloc (.map #[] 0) → wpList P ops Q rest (a.put o.dst (.map (some b))) w1) : wpList P ops Q (o :: rest) a W := by
 refine Kd.event_run hgd (v := .map (some W.heap.size)) (w1 := W.alloc (.map #[] 0)) ?_ (h _ rfl _ rfl)
 simp [execOp, ho, Instr.makeMap, Result.andThen]
theorem row_event {W : World} (hgd : o.guard = none) {N : Tmp} (_hd : o.dst = some N) {cs : Array Value} {n : Nat} {t : TypeId}
  (hrun : (execOp a.eval o).run P W = .ok (.value (.slice (some ⟨W.heap.size, 0, none⟩) n n)) (W.alloc (.cells cs t (0, 0))))
  (h : ∀ g, g = W.heap.size → ∀ w1, w1 = W.alloc (.cells cs t (0, 0)) → wpList P ops Q rest (a.put o.dst (.slice (some ⟨g, 0, none⟩) n n)) w1) : wpList P ops Q (o :: rest) a W :=
 Kd.event_run hgd hrun (h _ rfl _ rfl)
end
def setM (W : World) (b : Nat) (o : Obj) : World := { W with heap := W.heap.setIfInBounds b o }
theorem run_put {W : World} {b : Nat} {es : Array MapEntry} {clk : Nat} {k : Int} {v : Value} (hb : W.heap[b]? = some (.map es clk)) (hf : Instr.findNow (.int .i64) (.int .i64 k) es.toList 0 = some none) :
  (Instr.mapUpdate 59 (.map (some b)) (.int .i64 k) v).run Tryd.prog W = .ok () (setM W b (.map (es.push { key := .int .i64 k, val := v, born := clk }) (clk + 1))) := by
 simp [Instr.mapUpdate, run_underlying Tryd.underlying59, MapKept.run_getObj_map hb, MapKept.run_checkKey Tryd.underlying3 (show MapKept.IsKey (.int .i64) (.int .i64 k) from rfl), MapKept.run_findKey Tryd.underlying3 hf, MapKept.run_setObj_map _ hb, Result.andThen, setM]
theorem run_look {W : World} {b : Nat} {es : Array MapEntry} {clk : Nat} {k : Int} {i : Nat} {v : Value} (hb : W.heap[b]? = some (.map es clk)) (hf : Instr.findNow (.int .i64) (.int .i64 k) es.toList 0 = some (some (i, v))) :
  (Instr.lookup 59 (.map (some b)) (.int .i64 k) false).run Tryd.prog W = .ok v W := by
 simp [Instr.lookup, run_underlying Tryd.underlying59, MapKept.run_getObj_map hb, MapKept.run_checkKey Tryd.underlying3 (show MapKept.IsKey (.int .i64) (.int .i64 k) from rfl), MapKept.run_findKey Tryd.underlying3 hf, Result.andThen]
theorem put_event {ops : Array Oper} {o : Oper} {rest : List Oper} {a : Act} {Q : Exit → Act → World → Prop} {W : World} (m k x : Operand) (b : Nat) (es : Array MapEntry) (clk : Nat) (key : Int) (v : Value)
  (hgd : o.guard = none) (ho : o.op = .insert 59 m k x) (hm : a.eval m = .map (some b)) (hk : a.eval k = .int .i64 key) (hv : a.eval x = v) (hb : W.heap[b]? = some (.map es clk)) (hf : Instr.findNow (.int .i64) (.int .i64 key) es.toList 0 = some none)
  (h : ∀ w2, w2 = setM W b (.map (es.push { key := .int .i64 key, val := v, born := clk }) (clk + 1)) → wpList Tryd.prog ops Q rest (a.put o.dst undef) w2) : wpList Tryd.prog ops Q (o :: rest) a W := by
 refine wpList_plain hgd fun K hK => ?_
 unfold Oper.wp
 simp [execOp, ho, hm, hk, hv, run_put hb hf, Result.andThen]
 exact hK _ _ (h _ rfl)
/-- What lies in memory while the map is made: the map, the argument's box, the rows. -/
structure St (w : World) (gb b : Nat) (box : Array Value) (es : Array MapEntry) (clk : Nat) (rows : List (Nat × Array Value)) (W : World) : Prop where
 map : W.heap[b]? = some (.map es clk)
 box : W.heap[gb]? = some (.cells box 34 (0, 0))
 rows : ∀ p, p ∈ rows → W.heap[p.1]? = some (.cells p.2 9 (0, 0))
 low : Below w.heap.size w W
 hb : w.heap.size ≤ b
theorem lt_of {W : World} {k : Nat} {o : Obj} (h : W.heap[k]? = some o) : k < W.heap.size := (Array.getElem?_eq_some_iff.1 h).1
theorem St.made {w W : World} {gb : Nat} {box : Array Value} (hx : W.heap[gb]? = some (.cells box 34 (0, 0))) (hl : Below w.heap.size w W) : St w gb W.heap.size box #[] 0 [] (W.alloc (.map #[] 0)) := by
 have B := below_alloc (Below.refl W.heap.size W) (.map #[] 0)
 exact ⟨blk_new W _, (B.block gb (lt_of hx)).trans hx, fun p hp => (by cases hp), below_step hl B, hl.size⟩
theorem St.alloc {w W : World} {gb b : Nat} {box : Array Value} {es : Array MapEntry} {clk : Nat} {rows : List (Nat × Array Value)} (h : St w gb b box es clk rows W) (cs : Array Value) :
  St w gb b box es clk ((W.heap.size, cs) :: rows) (W.alloc (.cells cs 9 (0, 0))) := by
 have B := below_alloc (Below.refl W.heap.size W) (.cells cs 9 (0, 0))
 refine ⟨(B.block b (lt_of h.map)).trans h.map, (B.block gb (lt_of h.box)).trans h.box, ?_, below_step h.low B, h.hb⟩
 intro p hp
 rcases List.mem_cons.1 hp with rfl | hp
 ·exact blk_new W _
 ·exact (B.block p.1 (lt_of (h.rows p hp))).trans (h.rows p hp)
theorem St.put {w W : World} {gb b : Nat} {box : Array Value} {es : Array MapEntry} {clk : Nat} {rows : List (Nat × Array Value)} (h : St w gb b box es clk rows W) (es' : Array MapEntry) (clk' : Nat) :
  St w gb b box es' clk' rows (setM W b (.map es' clk')) := by
 have keep : ∀ k o, W.heap[k]? = some o → k ≠ b → (setM W b (.map es' clk')).heap[k]? = some o := by
  intro k o hk hne
  show (W.heap.setIfInBounds b (.map es' clk'))[k]? = some o
  rw [Array.getElem?_setIfInBounds_ne (Ne.symm hne)]
  exact hk
 have ne : ∀ k cs t, W.heap[k]? = some (.cells cs t (0, 0)) → k ≠ b := by
  rintro k cs t hk rfl
  rw [h.map] at hk
  cases hk
 refine ⟨?_, keep _ _ h.box (ne _ _ _ h.box), fun p hp => keep _ _ (h.rows p hp) (ne _ _ _ (h.rows p hp)), ?_, h.hb⟩
 ·show (W.heap.setIfInBounds b (.map es' clk'))[b]? = some _
  rw [Array.getElem?_setIfInBounds_self_of_lt (lt_of h.map)]
 ·refine h.low.trans ⟨rfl, rfl, rfl, ?_, ?_⟩
  ·show W.heap.size ≤ (W.heap.setIfInBounds b _).size
   rw [Array.size_setIfInBounds]; exact Nat.le_refl _
  ·intro k hk
   show (W.heap.setIfInBounds b _)[k]? = W.heap[k]?
   have := h.hb
   rw [Array.getElem?_setIfInBounds_ne (by omega)]
theorem St.put' {w W W2 : World} {gb b : Nat} {box : Array Value} {es es' : Array MapEntry} {clk clk' : Nat} {rows : List (Nat × Array Value)} (h : St w gb b box es clk rows W) (hw : W2 = setM W b (.map es' clk')) : St w gb b box es' clk' rows W2 := hw ▸ h.put es' clk'
theorem cell_of {W : World} {g j : Nat} {cs : Array Value} {t : TypeId} {v : Value} (h : W.heap[g]? = some (.cells cs t (0, 0))) (hj : cs[j]? = some v) : W.cell? ⟨g, j, none⟩ = some v := by
 rw [Lib.cell_of_heap h]; exact hj
theorem row_cells {W : World} {g : Nat} {xs : List ByteArray} {t : TypeId} (h : W.heap[g]? = some (.cells (xs.map Value.string).toArray t (0, 0))) : ∀ (j : Nat) x, xs[j]? = some x → W.cell? ⟨g, 0 + j, none⟩ = some (.string x) := by
 intro j x hx
 refine cell_of h ?_
 simp [hx]
/-- Joined by a blank. -/
def joined (xs : List ByteArray) : Option ByteArray := if (Lib.join (xs.map (·.data.toList)) [32]).length ≤ 140737488355328 then some ⟨(Lib.join (xs.map (·.data.toList)) [32]).toArray⟩ else none
theorem join_calls {W : World} {g : Nat} {xs : List ByteArray} {t : TypeId} {r : ByteArray} (h : W.heap[g]? = some (.cells (xs.map Value.string).toArray t (0, 0))) {n : Nat} (hn : xs.length = n) (hl : n ≤ 100) (hr : joined xs = some r) :
  Calls Tryd.prog 27 #[.slice (some ⟨g, 0, none⟩) n n, .string (⟨#[32]⟩ : ByteArray)] W fun e w' => e = .returned (.string r) ∧ Below W.heap.size W w' := by
 subst hn
 unfold joined at hr
 split at hr
 ·next hlen =>
  obtain rfl := Option.some.inj hr
  exact Tryd.strings_Join g 0 xs.length xs (⟨#[32]⟩ : ByteArray) W (row_cells h) (lt_of h) (by omega) (Nat.le_refl _) hlen
 ·cases hr
end Line
/-- A line of the kinds that may be. -/
def lineOf (a0 a1 : ByteArray) (a2 : Int) (d : ByteArray) : Option ByteArray :=
 if a2 = 0 then Line.joined [⟨#[111, 114, 100, 101, 114]⟩, a0, a1, d] else if a2 = 1 then Line.joined [⟨#[98, 108, 97, 110, 107]⟩, a0, d] else if a2 = 2 then Line.joined [⟨#[111, 110, 108, 121]⟩, a0, a1, d] else none
def endorse_line.f (a0_0 a0_1 : ByteArray) (a0_2 a0_3 : Int) : Option (ByteArray) := (strconv_Itoa.f a0_3).bind fun d => lineOf a0_0 a0_1 a0_2 d
set_option maxHeartbeats 8000000 in
set_option maxRecDepth 100000 in
theorem endorse_line.calls (a0_0 a0_1 : ByteArray) (a0_2 a0_3 : Int) (r : ByteArray) (w : World) (hT : Tabs w) (h : endorse_line.f a0_0 a0_1 a0_2 a0_3 = some r) :
  Calls Tryd.prog 15 #[.agg #[.string a0_0, .string a0_1, .int .i64 a0_2, .int .i64 a0_3]] w fun e w' => e = .returned (.string r) ∧ Below w.heap.size w w' := by
 unfold endorse_line.f at h
 obtain ⟨d, hd, h⟩ := Option.bind_eq_some_iff.mp h
 have HD := Aside0.mk hd
 have HL := Aside0.mk h
 have HB := Aside0.mk (Below.refl w.heap.size w)
 have HT := Aside0.mk hT
 clear hT hd h
 go_enter Tryd.func15, Tryd.ntmps15
 go_upto_region 3 with (first
 | ((with_reducible refine gate_dst (N := 1) rfl ?_); refine box_event ?hg (N := 1) ?hd (cs := #[.string a0_0, .string a0_1, .int .i64 a0_2, .int .i64 a0_3]) (t := 34) ?hr ?_; (case hd => rfl); (case hg => rfl); (case hr => first | (go_simp; done) | (go_simp; rfl)); intro gb hg w4 hbox hb; have n0_ := Aside0.mk (below_step HB.out hb); have n1_ := Aside0.mk hbox; clear HB; have HB := n0_; have BK := n1_; clear n0_ n1_ hb hbox hg; have hx3 : w4.cell? ⟨gb, 3, none⟩ = some (.int .i64 a0_3) := Line.cell_of BK.out rfl)
 | ((with_reducible refine gate_callee (f := 26) rfl ?_); refine goesL_ (some 7) rfl rfl Tryd.func26 (by kernel_rfl) rfl #[.int .i64 a0_3] rfl (by (try simp only [List.map_toArray, List.map_cons, List.map_nil]); first | done | rfl) ?_; (with_reducible refine (strconv_Itoa.calls a0_3 d _ (Tabs_below HT.out HB.out) HD.out).mono ?_); rintro e w5 ⟨rfl, hb⟩; refine ⟨_, rfl, ?_⟩; have n0_ := Aside0.mk (below_step HB.out hb); have n1_ := Aside0.mk ((hb.block gb (Line.lt_of BK.out)).trans BK.out); clear HB BK hx3 hb; have HB := n0_; have BK := n1_; clear n0_ n1_)
 | ((with_reducible refine gate_dst (N := 8) rfl ?_); refine Line.made_event ?hg (N := 8) ?hd (t := 59) ?ho ?_; (case hd => rfl); (case hg => rfl); (case ho => rfl); intro b hb w6 hw6; have n0_ : Line.St w gb b #[.string a0_0, .string a0_1, .int .i64 a0_2, .int .i64 a0_3] #[] 0 [] w6 := (by subst hb hw6; exact Line.St.made BK.out HB.out); have L := Aside0.mk n0_; clear n0_ hb hw6 HB BK; have hx0 : w6.cell? ⟨gb, 0, none⟩ = some (.string a0_0) := Line.cell_of L.out.box rfl; have hx1 : w6.cell? ⟨gb, 1, none⟩ = some (.string a0_1) := Line.cell_of L.out.box rfl)
 | ((with_reducible refine gate_dst (N := 14) rfl ?_); refine Line.row_event ?hg (N := 14) ?hd (cs := #[.string (⟨#[111, 114, 100, 101, 114]⟩ : ByteArray), .string a0_0, .string a0_1, .string d]) (n := 4) (t := 9) ?hr ?_; (case hd => rfl); (case hg => rfl); (case hr => first | (go_simp; done) | (go_simp; rfl)); intro g1 hg w7 hw7; have n0_ := (L.out.alloc #[.string (⟨#[111, 114, 100, 101, 114]⟩ : ByteArray), .string a0_0, .string a0_1, .string d]); rw [← hg, ← hw7] at n0_; clear L; have L := Aside0.mk n0_; clear n0_ hg hw7)
 | ((with_reducible refine gate_dst (N := 18) rfl ?_); refine Line.row_event ?hg (N := 18) ?hd (cs := #[.string (⟨#[98, 108, 97, 110, 107]⟩ : ByteArray), .string a0_0, .string d]) (n := 3) (t := 9) ?hr ?_; (case hd => rfl); (case hg => rfl); (case hr => first | (go_simp; done) | (go_simp; rfl)); intro g2 hg w9 hw9; have n0_ := (L.out.alloc #[.string (⟨#[98, 108, 97, 110, 107]⟩ : ByteArray), .string a0_0, .string d]); rw [← hg, ← hw9] at n0_; clear L; have L := Aside0.mk n0_; clear n0_ hg hw9)
 | ((with_reducible refine gate_dst (N := 24) rfl ?_); refine Line.row_event ?hg (N := 24) ?hd (cs := #[.string (⟨#[111, 110, 108, 121]⟩ : ByteArray), .string a0_0, .string a0_1, .string d]) (n := 4) (t := 9) ?hr ?_; (case hd => rfl); (case hg => rfl); (case hr => first | (go_simp; done) | (go_simp; rfl)); intro g3 hg w11 hw11; have n0_ := (L.out.alloc #[.string (⟨#[111, 110, 108, 121]⟩ : ByteArray), .string a0_0, .string a0_1, .string d]); rw [← hg, ← hw11] at n0_; clear L; have L := Aside0.mk n0_; clear n0_ hg hw11)
 | (refine Line.put_event (.tmp 8) (.const (.int .i64 0)) (.tmp 14) b #[] 0 0 (.slice (some ⟨g1, 0, none⟩) 4 4) (by rfl) (by rfl) (by rfl) (by rfl) (by rfl) L.out.map (by rfl) ?_; intro w8 hw8; have n0_ := Line.St.put' L.out hw8; clear L; have L := Aside0.mk n0_; clear n0_ hw8; try clear hx0 hx1; have hx0 : w8.cell? ⟨gb, 0, none⟩ = some (.string a0_0) := Line.cell_of L.out.box rfl; have hx1 : w8.cell? ⟨gb, 1, none⟩ = some (.string a0_1) := Line.cell_of L.out.box rfl)
 | (refine Line.put_event (.tmp 8) (.const (.int .i64 1)) (.tmp 18) b #[{ key := .int .i64 0, val := .slice (some ⟨g1, 0, none⟩) 4 4, born := 0 }] 1 1 (.slice (some ⟨g2, 0, none⟩) 3 3) (by rfl) (by rfl) (by rfl) (by rfl) (by rfl) L.out.map (by rfl) ?_; intro w8 hw8; have n0_ := Line.St.put' L.out hw8; clear L; have L := Aside0.mk n0_; clear n0_ hw8; try clear hx0 hx1; have hx0 : w8.cell? ⟨gb, 0, none⟩ = some (.string a0_0) := Line.cell_of L.out.box rfl; have hx1 : w8.cell? ⟨gb, 1, none⟩ = some (.string a0_1) := Line.cell_of L.out.box rfl)
 | (refine Line.put_event (.tmp 8) (.const (.int .i64 2)) (.tmp 24) b #[{ key := .int .i64 0, val := .slice (some ⟨g1, 0, none⟩) 4 4, born := 0 }, { key := .int .i64 1, val := .slice (some ⟨g2, 0, none⟩) 3 3, born := 1 }] 2 2 (.slice (some ⟨g3, 0, none⟩) 4 4) (by rfl) (by rfl) (by rfl) (by rfl) (by rfl) L.out.map (by rfl) ?_; intro w8 hw8; have n0_ := Line.St.put' L.out hw8; clear L; have L := Aside0.mk n0_; clear n0_ hw8; try clear hx0 hx1; have hx0 : w8.cell? ⟨gb, 0, none⟩ = some (.string a0_0) := Line.cell_of L.out.box rfl; have hx1 : w8.cell? ⟨gb, 1, none⟩ = some (.string a0_1) := Line.cell_of L.out.box rfl))
 have hx2 : w8.cell? ⟨gb, 2, none⟩ = some (.int .i64 a0_2) := Line.cell_of L.out.box rfl
 by_cases k0 : a0_2 = 0
 ·subst k0
  have hl := HL.out
  unfold lineOf at hl
  rw [if_pos rfl] at hl
  have hrow := L.out.rows (g1, ([(⟨#[111, 114, 100, 101, 114]⟩ : ByteArray), a0_0, a0_1, d].map Value.string).toArray) (by simp)
  have hlook := Line.run_look (k := 0) L.out.map (show Instr.findNow (.int .i64) (.int .i64 0) _ 0 = some (some (0, .slice (some ⟨g1, 0, none⟩) 4 4)) from rfl)
  go_wp2_with ((with_reducible refine gate_callee (f := 27) rfl ?_); refine goesL_ (some 30) rfl rfl Tryd.func27 (by kernel_rfl) rfl #[.slice (some ⟨g1, 0, none⟩) 4 4, .string (⟨#[32]⟩ : ByteArray)] rfl (by (try simp only [List.map_toArray, List.map_cons, List.map_nil]); first | done | rfl) ?_; (with_reducible refine (Line.join_calls (g := g1) (xs := [(⟨#[111, 114, 100, 101, 114]⟩ : ByteArray), a0_0, a0_1, d]) (t := 9) (n := 4) hrow rfl (by omega) hl).mono ?_); rintro e w12 ⟨rfl, hb⟩; refine ⟨_, rfl, ?_⟩; have HE := Aside0.mk (below_step L.out.low hb); clear hb)
  go_ret
  exact ⟨rfl, HE.out⟩
 ·by_cases k1 : a0_2 = 1
  ·subst k1
   have hl := HL.out
   unfold lineOf at hl
   rw [if_neg (by omega), if_pos rfl] at hl
   have hrow := L.out.rows (g2, ([(⟨#[98, 108, 97, 110, 107]⟩ : ByteArray), a0_0, d].map Value.string).toArray) (by simp)
   have hlook := Line.run_look (k := 1) L.out.map (show Instr.findNow (.int .i64) (.int .i64 1) _ 0 = some (some (1, .slice (some ⟨g2, 0, none⟩) 3 3)) from rfl)
   go_wp2_with ((with_reducible refine gate_callee (f := 27) rfl ?_); refine goesL_ (some 30) rfl rfl Tryd.func27 (by kernel_rfl) rfl #[.slice (some ⟨g2, 0, none⟩) 3 3, .string (⟨#[32]⟩ : ByteArray)] rfl (by (try simp only [List.map_toArray, List.map_cons, List.map_nil]); first | done | rfl) ?_; (with_reducible refine (Line.join_calls (g := g2) (xs := [(⟨#[98, 108, 97, 110, 107]⟩ : ByteArray), a0_0, d]) (t := 9) (n := 3) hrow rfl (by omega) hl).mono ?_); rintro e w12 ⟨rfl, hb⟩; refine ⟨_, rfl, ?_⟩; have HE := Aside0.mk (below_step L.out.low hb); clear hb)
   go_ret
   exact ⟨rfl, HE.out⟩
  ·by_cases k2 : a0_2 = 2
   ·subst k2
    have hl := HL.out
    unfold lineOf at hl
    rw [if_neg (by omega), if_neg (by omega), if_pos rfl] at hl
    have hrow := L.out.rows (g3, ([(⟨#[111, 110, 108, 121]⟩ : ByteArray), a0_0, a0_1, d].map Value.string).toArray) (by simp)
    have hlook := Line.run_look (k := 2) L.out.map (show Instr.findNow (.int .i64) (.int .i64 2) _ 0 = some (some (2, .slice (some ⟨g3, 0, none⟩) 4 4)) from rfl)
    go_wp2_with ((with_reducible refine gate_callee (f := 27) rfl ?_); refine goesL_ (some 30) rfl rfl Tryd.func27 (by kernel_rfl) rfl #[.slice (some ⟨g3, 0, none⟩) 4 4, .string (⟨#[32]⟩ : ByteArray)] rfl (by (try simp only [List.map_toArray, List.map_cons, List.map_nil]); first | done | rfl) ?_; (with_reducible refine (Line.join_calls (g := g3) (xs := [(⟨#[111, 110, 108, 121]⟩ : ByteArray), a0_0, a0_1, d]) (t := 9) (n := 4) hrow rfl (by omega) hl).mono ?_); rintro e w12 ⟨rfl, hb⟩; refine ⟨_, rfl, ?_⟩; have HE := Aside0.mk (below_step L.out.low hb); clear hb)
    go_ret
    exact ⟨rfl, HE.out⟩
   ·have hl := HL.out
    unfold lineOf at hl
    rw [if_neg k0, if_neg k1, if_neg k2] at hl
    cases hl

end Go.Proofs.YtjmbglgchmhahaaDoor.P
