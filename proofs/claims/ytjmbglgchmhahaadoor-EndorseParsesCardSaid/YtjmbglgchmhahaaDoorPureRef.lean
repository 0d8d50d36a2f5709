/- The document's endorsements; the chapter's example; how much is gone through. -/
import Derived.Test.YtjmbglgchmhahaaDoorPureBase
namespace Go.Proofs.YtjmbglgchmhahaaDoor.Pure
open Go.RowKit Go.Proofs.YtjmbglgchmhahaaDoor.P Go.Proofs.YtjmbglgchmhahaaDoorW.PrintWords Go.Proofs.YtjmbglgchmhahaaDoorW.PrintLast Go.Proofs.YtjmbglgchmhahaaDoorW.PrintMore
def Small (x : S34) : Prop := x.f0.size ≤ 4000 ∧ x.f1.size ≤ 4000
theorem refRight_eq (x : S34) (hx : Small x) (k : Nat) (hk : 8010 ≤ k) : supercargoref22_Right.f k x.f0 x.f1 x.f2 x.f3 = some (right x) := by
  obtain ⟨k, rfl⟩ : ∃ m, k = m + 3 := ⟨k - 3, by omega⟩
  have h1 := hx.1
  have h2 := hx.2
  have n0 := refName_eq x.f0 (by omega) (k + 3) (by omega)
  have n1 := refName_eq x.f1 (by omega) (k + 2) (by omega)
  unfold supercargoref22_Right.f right rightB
  rw [n0]
  simp only [Option.bind_some, supercargoref22_Right.j0]
  rw [n1]
  by_cases a1 : nm x.f0 = true
  · by_cases a2 : x.f3 < 0
    · simp [a1, a2]
    · by_cases a3 : x.f3 > 1048576
      · simp [a1, a2, a3]
      · by_cases a4 : x.f2 = 0
        · by_cases a5 : nm x.f1 = true
          · simp [a1, a2, a3, a4, a5]
          · simp [a1, a2, a3, a4, a5]
        · by_cases a5 : x.f2 = 2
          · by_cases a6 : nm x.f1 = true
            · simp [a1, a2, a3, a5, a6]
            · simp [a1, a2, a3, a5, a6]
          · by_cases a6 : x.f2 = 1
            · simp [a1, a2, a3, a6]
            · simp [a1, a2, a3, a4, a5, a6]
  · simp [a1]

theorem right_kind {x : S34} (h : right x = true) : (x.f2 = 0 ∨ x.f2 = 2 ∨ x.f2 = 1) ∧ 0 ≤ x.f3 ∧ x.f3 ≤ 1048576 ∧ nm x.f0 = true ∧ (x.f2 = 1 → x.f1.toList = []) ∧ (x.f2 ≠ 1 → nm x.f1 = true ∧ x.f1.toList ≠ x.f0.toList) := by
  unfold right rightB at h
  by_cases a1 : nm x.f0 = true
  · rw [if_pos a1] at h
    by_cases a2 : x.f3 < 0
    · rw [if_pos a2] at h; cases h
    · rw [if_neg a2] at h
      by_cases a3 : x.f3 > 1048576
      · rw [if_pos a3] at h; cases h
      · rw [if_neg a3] at h
        by_cases a4 : x.f2 = 0 ∨ x.f2 = 2
        · rw [if_pos a4] at h
          simp at h
          refine ⟨by rcases a4 with h | h <;> simp [h], by omega, by omega, a1, fun e => by omega, fun _ => ⟨h.1, h.2⟩⟩
        · rw [if_neg a4] at h
          by_cases a5 : x.f2 = 1
          · rw [if_pos a5] at h
            simp at h
            exact ⟨.inr (.inr a5), by omega, by omega, a1, fun _ => h, fun e => absurd a5 e⟩
          · rw [if_neg a5] at h; cases h
  · rw [if_neg a1] at h; cases h
theorem awake_eq (k : Nat) (hk : 10 ≤ k) : supercargolaw22_awake.f k = some true := by
  have n1 : nm (⟨#[115]⟩ : ByteArray) = true := by decide
  have n2 : nm (⟨#[107]⟩ : ByteArray) = true := by decide
  have n3 : nm (⟨#[121]⟩ : ByteArray) = true := by decide
  have c1 : chain (⟨#[115]⟩ : ByteArray) [⟨⟨#[115]⟩, ⟨#[107]⟩, 0, 0⟩, ⟨⟨#[107]⟩, ⟨#[121]⟩, 0, 0⟩] = (⟨⟨#[121]⟩, false, false, 0⟩, 2, 0) := by
    simp [chain, go, wrong, right, rightB, on, start, n1, n2, n3, ByteArray.toList_eq]
  have c2 : chain (⟨#[115]⟩ : ByteArray) [⟨⟨#[115]⟩, ⟨#[107]⟩, 0, 0⟩, ⟨⟨#[115]⟩, ⟨#[121]⟩, 0, 0⟩] = (⟨em, false, false, 0⟩, 1, 8) := by
    simp [chain, go, wrong, right, rightB, on, start, n1, n2, n3, ByteArray.toList_eq]
  unfold supercargolaw22_awake.f
  rw [check_eq _ _ (by simp) k (by simp; omega), check_eq _ _ (by simp) k (by simp; omega), c1, c2]
  simp [ByteArray.toList_eq]

theorem big_l0 (l : List S34) (hl : l.length ≤ 1000000) (d : Nat) : ∀ n, n ≤ l.length → l.length - n = d →
    ∃ b, (∀ k, 2 * d + 2 ≤ k → supercargoref22_Big.l0 k l n = some b) ∧ (b = false → ∀ m, n ≤ m → ∀ h : m < l.length, l[m].f0.size ≤ 100 ∧ l[m].f1.size ≤ 100) := by
  induction d with
  | zero =>
    intro n hn hd
    refine ⟨false, fun k hk => ?_, fun _ m h1 h2 => by omega⟩
    obtain ⟨k, rfl⟩ : ∃ m, k = m + 1 := ⟨k - 1, by omega⟩
    simp only [supercargoref22_Big.l0]
    rw [if_neg (by omega)]
  | succ d ih =>
    intro n hn hd
    have hlt : n < l.length := by omega
    obtain ⟨b, hb, hc⟩ := ih (n + 1) (by omega) (by omega)
    by_cases h0 : l[n].f0.size > 100
    · refine ⟨true, fun k hk => ?_, fun h => by cases h⟩
      obtain ⟨k, rfl⟩ : ∃ m, k = m + 1 := ⟨k - 1, by omega⟩
      simp only [supercargoref22_Big.l0]
      rw [if_pos (by omega), if_pos (by omega), rd_at hlt, if_pos (by omega)]
    · by_cases h1 : l[n].f1.size > 100
      · refine ⟨true, fun k hk => ?_, fun h => by cases h⟩
        obtain ⟨k, rfl⟩ : ∃ m, k = m + 1 := ⟨k - 1, by omega⟩
        simp only [supercargoref22_Big.l0]
        rw [if_pos (by omega), if_pos (by omega), rd_at hlt, if_neg (by omega), if_pos (by omega)]
      · refine ⟨b, fun k hk => ?_, fun h m h2 h3 => ?_⟩
        · obtain ⟨k, rfl⟩ : ∃ m, k = m + 1 := ⟨k - 1, by omega⟩
          have IH := hb k (by omega)
          simp only [supercargoref22_Big.l0]
          rw [if_pos (by omega), if_pos (by omega), rd_at hlt, if_neg (by omega), if_neg (by omega), wrap_next (show n < 4611686018427387904 by omega), IH]
        · rcases Nat.lt_or_ge n m with h4 | h4
          · exact hc h m h4 h3
          · obtain rfl : m = n := by omega
            exact ⟨by omega, by omega⟩
theorem big_eq (l : List S34) (m : Nat) (hm : m ≤ 1000) : ∃ b, (∀ k, 2002 ≤ k → supercargoref22_Big.f k l (m : Int) = some b) ∧ (b = false → l.length ≤ m ∧ ∀ x ∈ l, x.f0.size ≤ 100 ∧ x.f1.size ≤ 100) := by
  by_cases h : l.length > m
  · refine ⟨true, fun k hk => ?_, fun h => by cases h⟩
    unfold supercargoref22_Big.f
    rw [if_pos (by omega)]
  · obtain ⟨b, hb, hc⟩ := big_l0 l (by omega) l.length 0 (by omega) (by omega)
    refine ⟨b, fun k hk => ?_, fun h => ⟨by omega, fun x hx => ?_⟩⟩
    · unfold supercargoref22_Big.f
      rw [if_neg (by omega)]
      exact hb k (by omega)
    · obtain ⟨i, hi, rfl⟩ := List.getElem_of_mem hx
      exact hc h i (by omega) hi

end Go.Proofs.YtjmbglgchmhahaaDoor.Pure
