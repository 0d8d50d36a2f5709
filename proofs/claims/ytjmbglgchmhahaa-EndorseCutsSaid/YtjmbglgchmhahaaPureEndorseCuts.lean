/- The plain law of EndorseCuts: a chain that is cut. -/
import Derived.Test.YtjmbglgchmhahaaPureChain
import Derived.Test.YtjmbglgchmhahaaPx6
namespace Go.Proofs.Ytjmbglgchmhahaa.Pure
open Go.RowKit Go.Proofs.Ytjmbglgchmhahaa.P Go.Proofs.YtjmbglgchmhahaaW.PrintWords Go.Proofs.YtjmbglgchmhahaaW.PrintLast

theorem cuts_j2 (a0 : ByteArray) (l1 : List S31) (a2 : Int) (t : Nat) (ht : t ≤ l1.length) (hl : l1.length ≤ 30) (hm : (mn (mx a2 0) (l1.length : Int)) = (t : Int)) (k : Nat) (hk : 1000 ≤ k) :
    supercargolaw22_EndorseCuts.j2 k a0 l1 a2 (t : Int) = some true := by
  obtain ⟨k, rfl⟩ : ∃ m, k = m + 3 := ⟨k - 3, by omega⟩
  have htl : (l1.take t).length = t := by simp; omega
  simp only [supercargolaw22_EndorseCuts.j2, supercargolaw22_EndorseCuts.j3, supercargolaw22_EndorseCuts.j4, supercargolaw22_EndorseCuts.j5, endorse_Cut.f]
  rw [hm, if_pos (by omega), if_pos (by omega), Int.toNat_natCast]
  simp only [Option.bind_some, List.length_nil, Nat.zero_add, List.nil_append]
  rw [if_pos (by rw [htl]; omega)]
  simp only [Option.bind_some]
  rw [if_pos (by omega), if_pos (by omega), same_eq _ (by rw [htl]; omega) _ (by rw [htl]; omega)]
  simp only [Option.bind_some, if_true]
  rw [check_eq a0 l1 (by omega) _ (by omega), check_eq a0 (l1.take t) (by rw [htl]; omega) _ (by rw [htl]; omega)]
  simp only [Option.bind_some]
  by_cases hn : nm a0 = true
  · rw [chain_yes hn, chain_yes hn]
    obtain ⟨h1, h2⟩ := go_take l1 (start a0) 0 t ht
    by_cases h0 : (go (start a0) 0 l1).2.2 = 0
    · rw [if_pos h0, h1 h0]
      by_cases ht0 : t = 0
      · subst ht0
        simp [start]
      · have w := wrap_prev (n := t) (by omega) (by omega)
        rw [if_pos (by omega), w, if_pos (by omega), if_pos (by omega), rd_nat, if_neg ht0]
        simp [on]
    · rw [if_neg h0]
      obtain ⟨h3, h4⟩ := h2 h0
      by_cases h5 : t ≤ (go (start a0) 0 l1).2.1
      · rw [if_pos (by omega), h3 (by omega)]
        simp
      · rw [if_neg (by omega), if_pos (by omega), h4 (by omega), if_pos rfl]
        simp
  · rw [chain_not hn, chain_not hn]
    by_cases ht0 : t = 0
    · subst ht0
      simp
    · simp [ht0]

theorem EndorseCuts (a0 : ByteArray) (l1 : List S31) (a2 : Int) (_ : a0.size ≤ 140737488351232) (_ : (Lit.int .i64 a2).wf = true) : ∃ k, supercargolaw22_EndorseCuts.f k a0 l1 a2 = some true := by
  obtain ⟨b, hb, hc⟩ := big_eq l1 30 (by omega)
  refine ⟨10000 + 3, ?_⟩
  unfold supercargolaw22_EndorseCuts.f
  rw [awake_eq _ (by omega)]
  simp only [Option.bind_some, if_true]
  rw [show (30 : Int) = ((30 : Nat) : Int) from rfl, hb _ (by omega)]
  simp only [Option.bind_some, supercargolaw22_EndorseCuts.j0, supercargolaw22_EndorseCuts.j1]
  cases b with
  | true => simp
  | false =>
    obtain ⟨hl, _⟩ := hc rfl
    simp only [Bool.false_eq_true, if_false]
    by_cases h0 : (a0.size : Int) > 100
    · simp [h0]
    · rw [if_neg (by simpa using h0)]
      obtain ⟨n, hn⟩ : ∃ n : Nat, l1.length = n := ⟨_, rfl⟩
      by_cases h1 : a2 < 0
      · rw [if_pos h1, if_neg (by omega)]
        refine cuts_j2 a0 l1 a2 0 (by omega) hl ?_ _ (by omega)
        unfold mn mx; omega
      · rw [if_neg h1]
        by_cases h2 : a2 > (l1.length : Int)
        · rw [if_pos h2]
          refine cuts_j2 a0 l1 a2 l1.length (by omega) hl ?_ _ (by omega)
          unfold mn mx; omega
        · rw [if_neg h2]
          obtain ⟨t, rfl⟩ : ∃ t : Nat, a2 = t := ⟨a2.toNat, by omega⟩
          refine cuts_j2 a0 l1 t t (by omega) hl ?_ _ (by omega)
          unfold mn mx; omega
end Go.Proofs.Ytjmbglgchmhahaa.Pure
