/- The law MoneyOrders in plain Lean: of any three fractions what isn't above what isn't above a third one isn't above that. -/
import Derived.Test.YtggjphcikcflkaaDoorPureCompare
import Derived.Test.YtggjphcikcflkaaDoorPx27
namespace Go.Proofs.YtggjphcikcflkaaDoor.Pure
open Go.RowKit Go.Proofs.YtggjphcikcflkaaDoor.P Go.Proofs.YtggjphcikcflkaaDoorW.PrintWords Go.Proofs.YtggjphcikcflkaaDoorW.PrintLast Go.Proofs.YtggjphcikcflkaaDoorW.PrintMore
theorem orders_j0 {a b : Int} (ha : a ≤ 9223372036854775807) (hb' : b ≤ 9223372036854775807) {k : Nat} (hk : 6 ≤ k) : supercargolaw01_MoneyOrders.j0 k false a b = some true := by
  obtain ⟨k, rfl⟩ : ∃ j, k = j + 1 := ⟨k - 1, by omega⟩
  simp only [supercargolaw01_MoneyOrders.j0]
  rw [if_neg (by simp), Compare_eq ha hb' ha hb' (by omega), Option.bind_some, Frac.cmpN_eq rfl, if_pos rfl, awake_eq (by omega)]
  rfl
theorem MoneyOrders (a b c d e f : Int) (wa : (Lit.int .i64 a).wf = true) (wb : (Lit.int .i64 b).wf = true) (wc : (Lit.int .i64 c).wf = true) (wd : (Lit.int .i64 d).wf = true) (we : (Lit.int .i64 e).wf = true) (wf : (Lit.int .i64 f).wf = true) : ∃ k, supercargolaw01_MoneyOrders.f k a b c d e f = some true := by
  refine ⟨20, ?_⟩
  have ia := (wf64 wa).2
  have ib := (wf64 wb).2
  have ic := (wf64 wc).2
  have id := (wf64 wd).2
  have ie := (wf64 we).2
  have iff' := (wf64 wf).2
  unfold supercargolaw01_MoneyOrders.f
  rw [Compare_eq ia ib ic id (by omega), Option.bind_some, Compare_eq ic id ie iff' (by omega), Option.bind_some, Compare_eq ia ib ie iff' (by omega), Option.bind_some]
  have pb := hb_pos a b
  have pd := hb_pos c d
  have pf := hb_pos e f
  have J := orders_j0 ia ib (k := 20) (by omega)
  by_cases h1 : Frac.cmpN (hn a b) (hb a b) (hn c d) (hb c d) ≤ 0
  · rw [if_pos h1]
    by_cases h2 : Frac.cmpN (hn c d) (hb c d) (hn e f) (hb e f) ≤ 0
    · rw [if_pos h2]
      have l1 := Frac.le_iff.1 h1
      have l2 := Frac.le_iff.1 h2
      have l3 := Frac.le_trans pd l1 l2
      have h3 := Frac.le_iff.2 l3
      rw [if_neg (by omega)]
      by_cases h0 : Frac.cmpN (hn a b) (hb a b) (hn e f) (hb e f) = 0
      · rw [if_pos h0]
        have g1 : ¬ Frac.cmpN (hn a b) (hb a b) (hn c d) (hb c d) < 0 := by
          intro h
          have := Frac.lt_iff.2 (Frac.lt_trans1 (d := hb c d) pf (Frac.lt_iff.1 h) l2)
          omega
        have g2 : ¬ Frac.cmpN (hn c d) (hb c d) (hn e f) (hb e f) < 0 := by
          intro h
          have := Frac.lt_iff.2 (Frac.lt_trans2 (d := hb c d) pb l1 (Frac.lt_iff.1 h))
          omega
        rw [if_neg g1, decide_eq_false g2]
        exact J
      · rw [if_neg h0]
        exact J
    · rw [if_neg h2]; exact J
  · rw [if_neg h1]; exact J
end Go.Proofs.YtggjphcikcflkaaDoor.Pure
