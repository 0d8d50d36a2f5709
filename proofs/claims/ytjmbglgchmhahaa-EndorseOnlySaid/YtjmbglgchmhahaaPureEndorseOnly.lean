/- The plain law of EndorseOnly: a chain that goes no further. -/
import Derived.Test.YtjmbglgchmhahaaPureMay
import Derived.Test.YtjmbglgchmhahaaPx12
namespace Go.Proofs.Ytjmbglgchmhahaa.Pure
open Go.RowKit Go.Proofs.Ytjmbglgchmhahaa.P Go.Proofs.YtjmbglgchmhahaaW.PrintWords Go.Proofs.YtjmbglgchmhahaaW.PrintLast

theorem only_j1 (a0 : ByteArray) (l : List S31) (a2 a4 : ByteArray) (hl : l.length ≤ 20) (h0 : (chain a0 l).2.2 = 0) (he : (chain a0 l).1.ended = false) (hh : nm (chain a0 l).1.holder = true)
    (h2 : nm a2 = true) (hne : a2.toList ≠ (chain a0 l).1.holder.toList) (x : S31) (k : Nat) (hk : 1000 ≤ k) :
    supercargolaw22_EndorseOnly.j1 k a0 l a2 a4 (chain a0 l).1.holder ((chain a0 l).2.1 : Int) false x.f0 x.f1 x.f2 x.f3 = some true := by
  obtain ⟨k, rfl⟩ : ∃ m, k = m + 2 := ⟨k - 2, by omega⟩
  have hd := day_most h0
  have hat := (chain_end h0).1
  have hr : right (⟨(chain a0 l).1.holder, a2, 2, 1048576⟩ : S31) = true := by unfold right rightB; simp [h2, hh, hne]
  have hw : wrong (chain a0 l).1 (⟨(chain a0 l).1.holder, a2, 2, 1048576⟩ : S31) = 0 := by
    unfold wrong
    rw [if_pos hr, if_neg (by simp [he]), if_neg (by simp), if_neg (by simp; omega)]
  have hc := chain_snoc_ok h0 (⟨(chain a0 l).1.holder, a2, 2, 1048576⟩ : S31)
  rw [if_pos hw] at hc
  generalize (chain a0 l).1.holder = h at *
  have hlen : (l ++ [(⟨h, a2, 2, 1048576⟩ : S31)]).length = l.length + 1 := by simp
  generalize hL : l ++ [(⟨h, a2, 2, 1048576⟩ : S31)] = L at *
  have hm : ∀ who, mayB a0 who L = false := fun who => by unfold mayB; rw [hc]; simp [on]
  have h1 : (chain a0 L).2.2 = 0 := by rw [hc]
  have hx := chain_snoc_ok h1 x
  have hwx : wrong (chain a0 L).1 x = 2 ∨ wrong (chain a0 L).1 x = 9 := by
    unfold wrong
    rw [hc]
    by_cases g : right x = true
    · rw [if_pos g]; right; simp [on]
    · rw [if_neg g]; left; rfl
  rw [if_neg (by omega)] at hx
  simp only [supercargolaw22_EndorseOnly.j1, supercargolaw22_EndorseOnly.j2, Bool.false_eq_true, if_false, Option.bind_some, List.length_nil, Nat.zero_add, List.nil_append]
  rw [if_pos (by omega), if_pos (by simp; omega), hL, check_eq a0 L (by omega) _ (by omega)]
  simp only [Option.bind_some]
  rw [if_pos (by omega), if_pos (by simp; omega), check_eq a0 (L ++ [x]) (by simp; omega) _ (by simp; omega)]
  simp only [Option.bind_some]
  have M2 := (may_eq a0 a2 L (by omega) (k + 1) (by omega)).trans (congrArg some (hm a2))
  have M4 := (may_eq a0 a4 L (by omega) (k + 1) (by omega)).trans (congrArg some (hm a4))
  have c1 : (chain a0 L).1.holder = a2 := by rw [hc]; rfl
  have c2 : (chain a0 L).2.1 = l.length + 1 := by rw [hc]
  have x1 : (chain a0 (L ++ [x])).1.holder = em := by rw [hx]
  have x2 : (chain a0 (L ++ [x])).2.1 = l.length + 1 := by rw [hx]; exact hlen
  have x3 : (chain a0 (L ++ [x])).2.2 = wrong (chain a0 L).1 x := by rw [hx]
  have w := wrap_next (n := l.length) (by omega)
  rw [M2, M4, c1, c2, h1, x1, x2, x3, hat, w, em_toList]
  generalize wrong (chain a0 L).1 x = e at *
  simp only [Option.bind_some]
  rcases hwx with rfl | rfl
  · simp
  · simp

theorem EndorseOnly (a0 : ByteArray) (l1 : List S31) (a2 : ByteArray) (a3_0 a3_1 : ByteArray) (a3_2 a3_3 : Int) (a4 : ByteArray) (_ : a0.size ≤ 140737488351232) (_ : a2.size ≤ 140737488351232) (_ : a4.size ≤ 140737488351232) :
    ∃ k, supercargolaw22_EndorseOnly.f k a0 l1 a2 a3_0 a3_1 a3_2 a3_3 a4 = some true := by
  obtain ⟨b, hb, hc⟩ := big_eq l1 20 (by omega)
  obtain ⟨b1, hb1, _⟩ := big_eq [(⟨a3_0, a3_1, a3_2, a3_3⟩ : S31)] 1 (by omega)
  refine ⟨10000 + 3, ?_⟩
  unfold supercargolaw22_EndorseOnly.f
  rw [awake_eq _ (by omega)]
  simp only [Option.bind_some, if_true]
  rw [show (20 : Int) = ((20 : Nat) : Int) from rfl, hb _ (by omega), show (1 : Int) = ((1 : Nat) : Int) from rfl, hb1 _ (by omega)]
  simp only [Option.bind_some, supercargolaw22_EndorseOnly.j0]
  cases b with
  | true => simp
  | false =>
    obtain ⟨hl, hs⟩ := hc rfl
    have hsm : ∀ x ∈ l1, Small x := fun x hx => ⟨by have := (hs x hx).1; omega, by have := (hs x hx).2; omega⟩
    cases b1 with
    | true => simp
    | false =>
    simp only [Bool.false_eq_true, if_false]
    by_cases g0 : (a0.size : Int) > 100
    · simp [g0]
    · by_cases g1 : (a2.size : Int) > 100
      · simp [g0, g1]
      · by_cases g2 : (a4.size : Int) > 100
        · simp [g0, g1, g2]
        · rw [if_neg g0, if_neg g1, if_neg (by simpa using g2), refCheck_eq a0 (by omega) l1 (by omega) hsm _ (by omega), refName_eq a2 (by omega) _ (by omega)]
          simp only [Option.bind_some, three]
          by_cases h0 : (chain a0 l1).2.2 = 0
          · obtain ⟨e1, e2, e3⟩ := chain_end h0
            have hn := chain_name h0
            rw [if_pos h0]
            by_cases he : (chain a0 l1).1.holder.toList = []
            · rw [if_pos he]; simp [supercargolaw22_EndorseOnly.j1]
            · rw [if_neg he]
              by_cases n2 : nm a2 = true
              · rw [if_pos n2]
                by_cases hne : a2.toList = (chain a0 l1).1.holder.toList
                · rw [if_pos hne]; simp [supercargolaw22_EndorseOnly.j1]
                · rw [if_neg hne]
                  by_cases hz : l1.length = 0
                  · have hst : (chain a0 l1).1 = start a0 := by rw [e2, if_pos hz]
                    rw [if_neg (by omega)]
                    exact only_j1 a0 l1 a2 a4 hl h0 (by rw [hst]; rfl) (by rw [hst]; exact hn) n2 hne ⟨a3_0, a3_1, a3_2, a3_3⟩ _ (by omega)
                  · rw [if_neg hz] at e2
                    have K := right_kind (last_right e3 hz)
                    have w := wrap_prev (n := l1.length) (by omega) (by omega)
                    rw [if_pos (by omega), e1, w, if_pos (by omega), if_pos (by omega), rd_nat]
                    generalize l1.getD (l1.length - 1) z31 = y at *
                    by_cases k2 : y.f2 = 2
                    · simp [k2, supercargolaw22_EndorseOnly.j1]
                    · have k1 : y.f2 ≠ 1 := fun h => he (by rw [e2]; exact K.2.2.2.2.1 h)
                      have k2' : (y.f2 == 2) = false := by simpa using k2
                      rw [k2', ← e1]
                      exact only_j1 a0 l1 a2 a4 hl h0 (by rw [e2]; exact k2') (by rw [e2]; exact (K.2.2.2.2.2 k1).1) n2 hne ⟨a3_0, a3_1, a3_2, a3_3⟩ _ (by omega)
              · rw [if_neg n2]; simp [supercargolaw22_EndorseOnly.j1]
          · rw [if_neg h0]; simp [supercargolaw22_EndorseOnly.j1]
end Go.Proofs.Ytjmbglgchmhahaa.Pure
