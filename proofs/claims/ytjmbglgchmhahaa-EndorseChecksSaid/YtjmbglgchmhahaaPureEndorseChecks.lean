/- The plain law of EndorseChecks: the program's chain and the reference's are the same. -/
import Derived.Test.YtjmbglgchmhahaaPureLaw
import Derived.Test.YtjmbglgchmhahaaPx13
namespace Go.Proofs.Ytjmbglgchmhahaa.Pure
open Go.RowKit Go.Proofs.Ytjmbglgchmhahaa.P Go.Proofs.YtjmbglgchmhahaaW.PrintWords Go.Proofs.YtjmbglgchmhahaaW.PrintLast

theorem EndorseChecks (a0 : ByteArray) (l1 : List S31) (_ : a0.size ≤ 140737488351232) : ∃ k, supercargolaw22_EndorseChecks.f k a0 l1 = some true := by
  obtain ⟨b, hb, hc⟩ := big_eq l1 30 (by omega)
  refine ⟨10000 + 3, ?_⟩
  unfold supercargolaw22_EndorseChecks.f
  rw [awake_eq _ (by omega)]
  simp only [Option.bind_some, if_true]
  rw [show (30 : Int) = ((30 : Nat) : Int) from rfl, hb _ (by omega)]
  simp only [Option.bind_some, supercargolaw22_EndorseChecks.j0]
  cases b with
  | true => simp
  | false =>
    obtain ⟨hl, hs⟩ := hc rfl
    simp only [Bool.false_eq_true, if_false]
    by_cases h0 : (a0.size : Int) > 100
    · simp [h0]
    · rw [if_neg (by simpa using h0)]
      have hsm : ∀ x ∈ l1, Small x := fun x hx => ⟨by have := (hs x hx).1; omega, by have := (hs x hx).2; omega⟩
      have e1 := fun k hk => check_eq a0 l1 (by omega) k hk
      have e2 := fun k hk => refCheck_eq a0 (by omega) l1 (by omega) hsm k hk
      rw [e1 _ (by omega), e2 _ (by omega)]
      simp only [Option.bind_some, supercargolaw22_EndorseChecks.j1, supercargolaw22_EndorseChecks.j2, endorse_Holder.f, endorse_Blank.f, three]
      rw [e1 _ (by omega)]
      simp only [Option.bind_some]
      by_cases h1 : (l1.length : Int) > 0
      · have w := blank_last l1 (by omega) (by omega)
        have w1 := wrap_prev (n := l1.length) (by omega) (by omega)
        have p1 : 0 ≤ wrap64 ((l1.length : Int) - 1) := by rw [w1]; omega
        have p2 : wrap64 ((l1.length : Int) - 1) < (l1.length : Int) := by rw [w1]; omega
        simp only [if_pos h1, if_pos p1, if_pos p2, endorse_Blank.j0, if_true, Option.bind_some]
        simp
      · simp only [if_neg h1, endorse_Blank.j0, if_true, Option.bind_some]
        simp
end Go.Proofs.Ytjmbglgchmhahaa.Pure
