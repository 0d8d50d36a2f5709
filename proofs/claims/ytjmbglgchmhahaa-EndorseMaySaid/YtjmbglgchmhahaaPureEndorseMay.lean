/- The plain law of EndorseMay: who may give a chain on. -/
import Derived.Test.YtjmbglgchmhahaaPureMay
import Derived.Test.YtjmbglgchmhahaaPx11
namespace Go.Proofs.Ytjmbglgchmhahaa.Pure
open Go.RowKit Go.Proofs.Ytjmbglgchmhahaa.P Go.Proofs.YtjmbglgchmhahaaW.PrintWords Go.Proofs.YtjmbglgchmhahaaW.PrintLast

theorem may_j1 (a0 a1 a2 : ByteArray) (l : List S31) (hl : l.length ≤ 30) (h1 : nm a1 = true) (h2 : nm a2 = true) (hne : a2.toList ≠ a1.toList) (k : Nat) (hk : 1000 ≤ k) :
    supercargolaw22_EndorseMay.j1 k a0 a1 a2 l (mayB a0 a1 l) false = some true := by
  obtain ⟨k, rfl⟩ : ∃ m, k = m + 2 := ⟨k - 2, by omega⟩
  have hlen : (l ++ [(⟨a1, a2, 0, 1048576⟩ : S31)]).length = l.length + 1 := by simp
  simp only [supercargolaw22_EndorseMay.j1, supercargolaw22_EndorseMay.j2, supercargolaw22_EndorseMay.j3, Bool.false_eq_true, if_false, Option.bind_some, List.length_nil, Nat.zero_add, List.nil_append]
  rw [if_pos (by omega), if_pos (by simp; omega), check_eq a0 _ (by omega) _ (by omega)]
  simp only [Option.bind_some]
  have hr : right (⟨a1, a2, 0, 1048576⟩ : S31) = true := by unfold right rightB; simp [h1, h2, hne]
  have w := wrap_next (n := l.length) (by omega)
  rw [w]
  by_cases h0 : (chain a0 l).2.2 = 0
  · rw [chain_snoc_ok h0]
    have hd := day_most h0
    unfold mayB wrong
    rw [if_pos hr]
    generalize (chain a0 l).1 = c at *
    by_cases g1 : c.ended = true
    · simp [h0, h1, g1, em_toList]
    · by_cases g2 : c.blank = true
      · have : ¬ 1048576 < c.day := by omega
        simp [h0, h1, g1, g2, this, on]
      · by_cases g3 : a1.toList = c.holder.toList
        · have : ¬ 1048576 < c.day := by omega
          simp [h0, h1, g1, g2, g3, this, on]
        · simp [h0, h1, g1, g2, g3, em_toList]
  · rw [chain_snoc_no h0]
    have hm : mayB a0 a1 l = false := by unfold mayB; simp [h0]
    obtain ⟨e1, e2⟩ := chain_no h0
    simp [hm, h0, e1, em_toList]
    omega

theorem EndorseMay (a0 a1 a2 : ByteArray) (l3 : List S31) (_ : a0.size ≤ 140737488351232) (_ : a1.size ≤ 140737488351232) (_ : a2.size ≤ 140737488351232) : ∃ k, supercargolaw22_EndorseMay.f k a0 a1 a2 l3 = some true := by
  obtain ⟨b, hb, hc⟩ := big_eq l3 30 (by omega)
  refine ⟨10000 + 3, ?_⟩
  unfold supercargolaw22_EndorseMay.f
  rw [awake_eq _ (by omega)]
  simp only [Option.bind_some, if_true]
  rw [show (30 : Int) = ((30 : Nat) : Int) from rfl, hb _ (by omega)]
  simp only [Option.bind_some, supercargolaw22_EndorseMay.j0]
  cases b with
  | true => simp
  | false =>
    obtain ⟨hl, hs⟩ := hc rfl
    have hsm : ∀ x ∈ l3, Small x := fun x hx => ⟨by have := (hs x hx).1; omega, by have := (hs x hx).2; omega⟩
    simp only [Bool.false_eq_true, if_false]
    by_cases g0 : (a0.size : Int) > 100
    · simp [g0]
    · by_cases g1 : (a1.size : Int) > 100
      · simp [g0, g1]
      · by_cases g2 : (a2.size : Int) > 100
        · simp [g0, g1, g2]
        · rw [if_neg g0, if_neg g1, if_neg (by simpa using g2)]
          rw [may_eq a0 a1 l3 (by omega) _ (by omega), refMay_eq a0 a1 (by omega) (by omega) l3 (by omega) hsm _ (by omega)]
          simp only [Option.bind_some, bne_self_eq_false, Bool.false_eq_true, if_false]
          rw [refName_eq a2 (by omega) _ (by omega), refName_eq a1 (by omega) _ (by omega)]
          simp only [Option.bind_some]
          by_cases n2 : nm a2 = true
          · rw [if_pos n2]
            by_cases e : a2.toList = a1.toList
            · rw [if_pos e]; simp [supercargolaw22_EndorseMay.j1]
            · rw [if_neg e]
              by_cases n1 : nm a1 = true
              · rw [n1]
                exact may_j1 a0 a1 a2 l3 hl n1 n2 e _ (by omega)
              · simp [n1, supercargolaw22_EndorseMay.j1]
          · rw [if_neg n2]; simp [supercargolaw22_EndorseMay.j1]
end Go.Proofs.Ytjmbglgchmhahaa.Pure
