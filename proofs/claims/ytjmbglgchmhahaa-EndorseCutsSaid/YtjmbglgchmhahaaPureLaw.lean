/- What the laws of endorse share: the chapter's example, how much is gone through, the last one of a row. -/
import Derived.Test.YtjmbglgchmhahaaPureRef
namespace Go.Proofs.Ytjmbglgchmhahaa.Pure
open Go.RowKit Go.Proofs.Ytjmbglgchmhahaa.P Go.Proofs.YtjmbglgchmhahaaW.PrintWords Go.Proofs.YtjmbglgchmhahaaW.PrintLast

theorem awake_eq (k : Nat) (hk : 10 ≤ k) : supercargolaw22_awake.f k = some true := by
  have n1 : nm (⟨#[115]⟩ : ByteArray) = true := by decide
  have n2 : nm (⟨#[107]⟩ : ByteArray) = true := by decide
  have n3 : nm (⟨#[121]⟩ : ByteArray) = true := by decide
  have c1 : chain (⟨#[115]⟩ : ByteArray) [⟨⟨#[115]⟩, ⟨#[107]⟩, 0, 0⟩, ⟨⟨#[107]⟩, ⟨#[121]⟩, 0, 0⟩] = (⟨⟨#[121]⟩, false, false, 0⟩, 2, 0) := by
    simp [chain, go, wrong, right, rightB, on, start, n1, n2, n3, ByteArray.toList_eq]
  have c2 : chain (⟨#[115]⟩ : ByteArray) [⟨⟨#[115]⟩, ⟨#[107]⟩, 0, 0⟩, ⟨⟨#[115]⟩, ⟨#[121]⟩, 0, 0⟩] = (⟨em, false, false, 0⟩, 1, 8) := by
    simp [chain, go, wrong, right, rightB, on, start, n1, n2, n3, ByteArray.toList_eq]
  unfold supercargolaw22_awake.f
  rw [check_eq _ _ (by simp) k (by simp; omega), check_eq _ _ (by simp) k (by simp; omega), c1, c2]
  obtain ⟨k, rfl⟩ : ∃ m, k = m + 1 := ⟨k - 1, by omega⟩
  simp [supercargolaw22_awake.j0, ByteArray.toList_eq]

theorem big_l0 (l : List S31) (hl : l.length ≤ 1000000) (d : Nat) : ∀ n, n ≤ l.length → l.length - n = d →
    ∃ b, (∀ k, 2 * d + 2 ≤ k → supercargoref22_Big.l0 k l n = some b) ∧ (b = false → ∀ m, n ≤ m → ∀ h : m < l.length, l[m].f0.size ≤ 100 ∧ l[m].f1.size ≤ 100) := by
  induction d with
  | zero =>
    intro n hn hd
    refine ⟨false, fun k hk => ?_, fun _ m h1 h2 => by omega⟩
    obtain ⟨k, rfl⟩ : ∃ m, k = m + 1 := ⟨k - 1, by omega⟩
    simp only [supercargoref22_Big.l0]
    rw [if_neg (by omega)]
  | succ d ih =>
    intro n hn hd
    have hlt : n < l.length := by omega
    obtain ⟨b, hb, hc⟩ := ih (n + 1) (by omega) (by omega)
    by_cases h0 : l[n].f0.size > 100
    · refine ⟨true, fun k hk => ?_, fun h => by cases h⟩
      obtain ⟨k, rfl⟩ : ∃ m, k = m + 2 := ⟨k - 2, by omega⟩
      simp only [supercargoref22_Big.l0, supercargoref22_Big.j1]
      rw [if_pos (by omega), if_pos (by omega), rd_at hlt, if_pos (by omega), if_pos trivial]
    · by_cases h1 : l[n].f1.size > 100
      · refine ⟨true, fun k hk => ?_, fun h => by cases h⟩
        obtain ⟨k, rfl⟩ : ∃ m, k = m + 2 := ⟨k - 2, by omega⟩
        simp only [supercargoref22_Big.l0, supercargoref22_Big.j1]
        rw [if_pos (by omega), if_pos (by omega), rd_at hlt, if_neg (by omega), if_pos (by simp; omega)]
      · refine ⟨b, fun k hk => ?_, fun h m h2 h3 => ?_⟩
        · obtain ⟨k, rfl⟩ : ∃ m, k = m + 2 := ⟨k - 2, by omega⟩
          have IH := hb k (by omega)
          simp only [supercargoref22_Big.l0, supercargoref22_Big.j1]
          rw [if_pos (by omega), if_pos (by omega), rd_at hlt, if_neg (by omega), if_neg (by simp; omega), wrap_next (show n < 4611686018427387904 by omega), IH]
        · rcases Nat.lt_or_ge n m with h4 | h4
          · exact hc h m h4 h3
          · obtain rfl : m = n := by omega
            exact ⟨by omega, by omega⟩
theorem big_eq (l : List S31) (m : Nat) (hm : m ≤ 1000) : ∃ b, (∀ k, 2002 ≤ k → supercargoref22_Big.f k l (m : Int) = some b) ∧ (b = false → l.length ≤ m ∧ ∀ x ∈ l, x.f0.size ≤ 100 ∧ x.f1.size ≤ 100) := by
  by_cases h : l.length > m
  · refine ⟨true, fun k hk => ?_, fun h => by cases h⟩
    unfold supercargoref22_Big.f
    rw [if_pos (by omega)]
  · obtain ⟨b, hb, hc⟩ := big_l0 l (by omega) l.length 0 (by omega) (by omega)
    refine ⟨b, fun k hk => ?_, fun h => ⟨by omega, fun x hx => ?_⟩⟩
    · unfold supercargoref22_Big.f
      rw [if_neg (by omega)]
      exact hb k (by omega)
    · obtain ⟨i, hi, rfl⟩ := List.getElem_of_mem hx
      exact hc h i (by omega) hi

theorem blank_last (l : List S31) (hl : 0 < l.length) (hl' : l.length ≤ 1000000) : rd_T31 l (wrap64 ((l.length : Int) - 1)) = l[l.length - 1] := by
  rw [wrap_prev (by omega) (by omega), rd_at (show l.length - 1 < l.length by omega)]

end Go.Proofs.Ytjmbglgchmhahaa.Pure
