/- Chains, in plain Lean: cut anywhere, one more behind, how a right one ends. -/
import Derived.Test.YtjmbglgchmhahaaPureLaw
namespace Go.Proofs.Ytjmbglgchmhahaa.Pure
open Go.RowKit Go.Proofs.Ytjmbglgchmhahaa.P Go.Proofs.YtjmbglgchmhahaaW.PrintWords Go.Proofs.YtjmbglgchmhahaaW.PrintLast

theorem rd_nat (l : List S31) (n : Nat) : rd_T31 l (n : Int) = l.getD n z31 := by unfold rd_T31; rw [Int.toNat_natCast]
theorem wrong_not_one (s : St) (x : S31) : wrong s x ≠ 1 := by unfold wrong; split <;> (try split) <;> (try split) <;> (try split) <;> decide
/-- A right chain: where it ends, how it stands; all its parts are right. -/
theorem go_ok : ∀ (l : List S31) (s : St) (n : Nat), (go s n l).2.2 = 0 →
    (go s n l).2.1 = n + l.length ∧ (go s n l).1 = (if l.length = 0 then s else on (l.getD (l.length - 1) z31)) ∧ ∀ x ∈ l, right x = true
  | [], s, n, _ => ⟨by simp [go], by simp [go], fun x h => by cases h⟩
  | x :: r, s, n, h => by
    by_cases h0 : wrong s x = 0
    · rw [go_cons_ok h0] at h ⊢
      obtain ⟨h1, h2, h3⟩ := go_ok r (on x) (n + 1) h
      refine ⟨by simp only [List.length_cons]; omega, ?_, fun y hy => ?_⟩
      · rw [h2]
        cases r with
        | nil => simp
        | cons y r => simp
      · rcases List.mem_cons.1 hy with rfl | hy
        · exact wrong_right h0
        · exact h3 y hy
    · rw [go_cons_no h0] at h
      exact absurd h h0
/-- A wrong one. -/
theorem go_no : ∀ (l : List S31) (s : St) (n : Nat), (go s n l).2.2 ≠ 0 →
    (go s n l).1 = ⟨em, false, false, 0⟩ ∧ n ≤ (go s n l).2.1 ∧ (go s n l).2.1 < n + l.length ∧ (go s n l).2.2 ≠ 1
  | [], s, n, h => absurd rfl h
  | x :: r, s, n, h => by
    by_cases h0 : wrong s x = 0
    · rw [go_cons_ok h0] at h ⊢
      obtain ⟨h1, h2, h3, h4⟩ := go_no r (on x) (n + 1) h
      exact ⟨h1, by omega, by rw [List.length_cons]; omega, h4⟩
    · rw [go_cons_no h0]
      exact ⟨rfl, Nat.le_refl _, by simp, wrong_not_one s x⟩
theorem go_take : ∀ (l : List S31) (s : St) (n t : Nat), t ≤ l.length →
    ((go s n l).2.2 = 0 → go s n (l.take t) = ((if t = 0 then s else on (l.getD (t - 1) z31)), n + t, 0)) ∧
    ((go s n l).2.2 ≠ 0 → (n + t ≤ (go s n l).2.1 → (go s n (l.take t)).2.2 = 0) ∧ (n + t > (go s n l).2.1 → go s n (l.take t) = go s n l))
  | [], s, n, t, ht => by
    have : t = 0 := by simpa using ht
    subst this
    exact ⟨fun _ => by simp [go], fun h => absurd rfl h⟩
  | x :: r, s, n, t, ht => by
    cases t with
    | zero =>
      refine ⟨fun _ => by simp [go], fun h => ⟨fun _ => by simp [go], fun h2 => ?_⟩⟩
      have := (go_no _ s n h).2.1
      omega
    | succ t =>
      rw [List.take_succ_cons]
      by_cases h0 : wrong s x = 0
      · rw [go_cons_ok h0, go_cons_ok h0]
        obtain ⟨h1, h2⟩ := go_take r (on x) (n + 1) t (by simpa using ht)
        refine ⟨fun h => ?_, fun h => ⟨fun h3 => (h2 h).1 (by omega), fun h3 => (h2 h).2 (by omega)⟩⟩
        rw [h1 h]
        cases t with
        | zero => simp <;> omega
        | succ t => simp <;> omega
      · rw [go_cons_no h0, go_cons_no h0]
        refine ⟨fun h => absurd h h0, fun _ => ⟨fun h => ?_, fun _ => rfl⟩⟩
        exact absurd h (by simp)
theorem go_append_ok : ∀ (l r : List S31) (s : St) (n : Nat), (go s n l).2.2 = 0 → go s n (l ++ r) = go (go s n l).1 (n + l.length) r
  | [], r, s, n, _ => by simp [go]
  | x :: l, r, s, n, h => by
    by_cases h0 : wrong s x = 0
    · rw [go_cons_ok h0] at h ⊢
      rw [List.cons_append, go_cons_ok h0, go_append_ok l r (on x) (n + 1) h, List.length_cons]
      congr 1
      omega
    · rw [go_cons_no h0] at h
      exact absurd h h0
theorem go_append_no : ∀ (l r : List S31) (s : St) (n : Nat), (go s n l).2.2 ≠ 0 → go s n (l ++ r) = go s n l
  | [], r, s, n, h => absurd rfl h
  | x :: l, r, s, n, h => by
    by_cases h0 : wrong s x = 0
    · rw [go_cons_ok h0] at h ⊢
      rw [List.cons_append, go_cons_ok h0, go_append_no l r (on x) (n + 1) h]
    · rw [List.cons_append, go_cons_no h0, go_cons_no h0]

theorem chain_yes {first : ByteArray} (h : nm first = true) (l : List S31) : chain first l = go (start first) 0 l := by unfold chain; rw [if_pos h]
theorem chain_not {first : ByteArray} (h : ¬ nm first = true) (l : List S31) : chain first l = (⟨em, false, false, 0⟩, 0, 1) := by unfold chain; rw [if_neg h]
theorem chain_name {first : ByteArray} {l : List S31} (h : (chain first l).2.2 = 0) : nm first = true := by
  by_cases e : nm first = true
  · exact e
  · rw [chain_not e] at h; cases h
/-- A row is the same as itself. -/
theorem same_l0 (l : List S31) (hl : l.length ≤ 1000000) (d : Nat) : ∀ n, n ≤ l.length → l.length - n = d → ∀ k, d + 1 ≤ k → supercargoref22_Same.l0 k l l n = some true := by
  induction d with
  | zero =>
    intro n hn hd k hk
    obtain ⟨k, rfl⟩ : ∃ m, k = m + 1 := ⟨k - 1, by omega⟩
    simp only [supercargoref22_Same.l0]
    rw [if_neg (by omega)]
  | succ d ih =>
    intro n hn hd k hk
    obtain ⟨k, rfl⟩ : ∃ m, k = m + 1 := ⟨k - 1, by omega⟩
    have IH := ih (n + 1) (by omega) (by omega) k (by omega)
    simp only [supercargoref22_Same.l0]
    rw [if_pos (by omega), if_pos (by omega), if_pos (by omega), if_neg (by simp), wrap_next (show n < 4611686018427387904 by omega), IH]
theorem same_eq (l : List S31) (hl : l.length ≤ 1000000) (k : Nat) (hk : l.length + 1 ≤ k) : supercargoref22_Same.f k l l = some true := by
  unfold supercargoref22_Same.f
  rw [if_pos rfl]
  exact same_l0 l hl l.length 0 (by omega) (by omega) k (by omega)
end Go.Proofs.Ytjmbglgchmhahaa.Pure
