/- Who may give a chain on: the program's answer and the reference's; one more behind a chain. -/
import Derived.Test.YtjmbglgchmhahaaPureChain
import Derived.Test.YtjmbglgchmhahaaPx10
namespace Go.Proofs.Ytjmbglgchmhahaa.Pure
open Go.RowKit Go.Proofs.Ytjmbglgchmhahaa.P Go.Proofs.YtjmbglgchmhahaaW.PrintWords Go.Proofs.YtjmbglgchmhahaaW.PrintLast

theorem toList_eq' (s : ByteArray) : s.toList = s.data.toList := ByteArray.toList_eq s
theorem name_ne {s : ByteArray} (h : nm s = true) : s.toList ≠ [] := by
  intro e
  unfold nm MarkName.nameB at h
  simp at h
  have : s.data.toList.length = 0 := by rw [← toList_eq', e]; rfl
  have h1 := h.1
  simp at this
  rw [show s.size = s.data.size from rfl, this] at h1
  simp at h1
theorem beq_turn (a b : List UInt8) : (a == b) = (b == a) := by rw [Bool.eq_iff_iff, beq_iff_eq, beq_iff_eq]; exact ⟨Eq.symm, Eq.symm⟩
theorem em_toList : em.toList = [] := by simp [em, ByteArray.toList_eq]
/-- May somebody give it on? -/
def mayB (first who : ByteArray) (l : List S31) : Bool :=
  decide ((chain first l).2.2 = 0) && (nm who && (!(chain first l).1.ended && ((chain first l).1.blank || who.toList == (chain first l).1.holder.toList)))
theorem may_eq (first who : ByteArray) (l : List S31) (hl : l.length ≤ 1000000) (k : Nat) (hk : l.length + 4 ≤ k) : endorse_May.f k first who l = some (mayB first who l) := by
  unfold endorse_May.f mayB
  rw [follow_eq first l hl k hk]
  obtain ⟨k, rfl⟩ : ∃ m, k = m + 1 := ⟨k - 1, by omega⟩
  generalize chain first l = c
  simp only [Option.bind_some, mark_Name.f, endorse_May.j0]
  by_cases h0 : c.2.2 = 0
  · by_cases h1 : nm who = true
    · by_cases h2 : c.1.ended = true
      · simp [h0, h1, h2]
      · by_cases h3 : c.1.blank = true
        · simp [h0, h1, h2, h3]
        · simp [h0, h1, h2, h3]
    · simp [h0, h1]
  · simp [h0]
/-- How a right chain ends. -/
theorem chain_end {first : ByteArray} {l : List S31} (h : (chain first l).2.2 = 0) :
    (chain first l).2.1 = l.length ∧ (chain first l).1 = (if l.length = 0 then start first else on (l.getD (l.length - 1) z31)) ∧ ∀ x ∈ l, right x = true := by
  have hn := chain_name h
  rw [chain_yes hn] at h ⊢
  obtain ⟨h1, h2, h3⟩ := go_ok l (start first) 0 h
  exact ⟨by omega, h2, h3⟩
theorem last_right {l : List S31} (h : ∀ x ∈ l, right x = true) (hl : ¬ l.length = 0) : right (l.getD (l.length - 1) z31) = true := by
  rw [List.getD_eq_getElem?_getD, List.getElem?_eq_getElem (by omega)]
  exact h _ (List.getElem_mem _)
theorem refMay_eq (first who : ByteArray) (hf : first.size ≤ 1000) (hw : who.size ≤ 1000) (l : List S31) (hl : l.length ≤ 1000000) (hs : ∀ x ∈ l, Small x) (k : Nat) (hk : l.length + 2030 ≤ k) :
    supercargoref22_May.f k first who l = some (mayB first who l) := by
  have n0 := refName_eq who (by omega) k (by omega)
  unfold supercargoref22_May.f mayB
  rw [refCheck_eq first hf l hl hs k hk]
  simp only [Option.bind_some, n0]
  obtain ⟨k, rfl⟩ : ∃ m, k = m + 3 := ⟨k - 3, by omega⟩
  simp only [supercargoref22_May.j0, supercargoref22_May.j1, supercargoref22_May.j2]
  by_cases h0 : (chain first l).2.2 = 0
  · obtain ⟨_, e2, e3⟩ := chain_end h0
    have hn := chain_name h0
    rw [e2]
    by_cases h1 : nm who = true
    · by_cases hz : l.length = 0
      · have := name_ne hn
        simp [h0, h1, hz, start, this]
        exact beq_turn _ _
      · have w := wrap_prev (n := l.length) (by omega) (by omega)
        have K := right_kind (last_right e3 hz)
        have p1 : (l.length : Int) > 0 := by omega
        simp only [w, rd_nat, if_neg hz, if_pos p1, if_pos (show (0 : Int) ≤ ((l.length - 1 : Nat) : Int) by omega), if_pos (show ((l.length - 1 : Nat) : Int) < (l.length : Int) by omega)]
        generalize l.getD (l.length - 1) z31 = y at *
        by_cases k2 : y.f2 = 2
        · simp [h0, h1, k2, on]
        · by_cases k1 : y.f2 = 1
          · have := K.2.2.2.2.1 k1
            simp [h0, h1, k1, on, this]
          · have := name_ne (K.2.2.2.2.2 k1).1
            have k1' : (y.f2 == 1) = false := by simpa using k1
            have k2' : (y.f2 == 2) = false := by simpa using k2
            simp [h0, h1, k1', k2', on, this]
            exact beq_turn _ _
    · simp [h0, h1]
  · simp [h0]

theorem chain_snoc_ok {first : ByteArray} {l : List S31} (h : (chain first l).2.2 = 0) (x : S31) :
    chain first (l ++ [x]) = if wrong (chain first l).1 x = 0 then (on x, l.length + 1, 0) else (⟨em, false, false, 0⟩, l.length, wrong (chain first l).1 x) := by
  have hn := chain_name h
  rw [chain_yes hn] at h
  rw [chain_yes hn, chain_yes hn, go_append_ok l [x] (start first) 0 h, Nat.zero_add]
  by_cases h0 : wrong (go (start first) 0 l).1 x = 0
  · rw [go_cons_ok h0, if_pos h0]; rfl
  · rw [go_cons_no h0, if_neg h0]
theorem chain_snoc_no {first : ByteArray} {l : List S31} (h : (chain first l).2.2 ≠ 0) (r : List S31) : chain first (l ++ r) = chain first l := by
  by_cases hn : nm first = true
  · rw [chain_yes hn] at h
    rw [chain_yes hn, chain_yes hn, go_append_no l r (start first) 0 h]
  · rw [chain_not hn, chain_not hn]
theorem chain_no {first : ByteArray} {l : List S31} (h : (chain first l).2.2 ≠ 0) : (chain first l).1 = ⟨em, false, false, 0⟩ ∧ (chain first l).2.1 ≤ l.length := by
  by_cases hn : nm first = true
  · rw [chain_yes hn] at h ⊢
    obtain ⟨h1, h2, h3, _⟩ := go_no l (start first) 0 h
    exact ⟨h1, by omega⟩
  · rw [chain_not hn]
    exact ⟨rfl, by simp⟩
theorem day_most {first : ByteArray} {l : List S31} (h : (chain first l).2.2 = 0) : (chain first l).1.day ≤ 1048576 := by
  obtain ⟨_, e2, e3⟩ := chain_end h
  rw [e2]
  by_cases hz : l.length = 0
  · rw [if_pos hz]; simp [start]
  · rw [if_neg hz]
    exact (right_kind (last_right e3 hz)).2.2.1

end Go.Proofs.Ytjmbglgchmhahaa.Pure
