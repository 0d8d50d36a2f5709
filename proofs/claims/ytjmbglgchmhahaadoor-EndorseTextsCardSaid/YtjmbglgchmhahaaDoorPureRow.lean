/- What is printed is parsed; what is parsed is printed as it was: plain rows of endorsements. -/
import Derived.Test.YtjmbglgchmhahaaDoorPureParse
namespace Go.Proofs.YtjmbglgchmhahaaDoor.Pure
open Go.RowKit Go.Proofs.YtjmbglgchmhahaaDoor.P Go.Proofs.YtjmbglgchmhahaaDoorW.PrintWords Go.Proofs.YtjmbglgchmhahaaDoorW.PrintLast Go.Proofs.YtjmbglgchmhahaaDoorW.PrintMore
open Spl (spl glue)
theorem glue_spl (c : UInt8) (n : Nat) : ∀ l : List UInt8, l.length ≤ n → glue c (spl c l) = l := by
  induction n with
  | zero =>
    intro l hl
    have : l = [] := List.length_eq_zero_iff.mp (by omega)
    subst this
    rfl
  | succ n ih =>
    intro l hl
    rcases Spl.first c l with h | ⟨a, b, e, h⟩
    · rw [Spl.spl_none h]; rfl
    · subst e
      have hb : b.length ≤ n := by simp at hl; omega
      rw [Spl.spl_hit h, Spl.glue_cons (Spl.spl_ne c b), ih b hb]
theorem goL_ok : ∀ (ls : List (List UInt8)), ls ≠ [] → ∀ acc, (goL ls acc).2.2 = 0 → ∃ M, (goL ls acc).1 = acc ++ M ∧ M.all right = true ∧ rowL M = glue 10 ls
  | [], h, _, _ => absurd rfl h
  | [a], _, acc, h => by
    unfold goL at h ⊢
    by_cases h0 : a = []
    · rw [if_pos h0]
      exact ⟨[], by simp, rfl, by rw [h0]; rfl⟩
    · rw [if_neg h0] at h
      cases h
  | a :: b :: r, _, acc, h => by
    unfold goL at h ⊢
    by_cases hi : isOf (ofL a) a = true
    · rw [if_pos hi] at h ⊢
      obtain ⟨M, h1, h2, h3⟩ := goL_ok (b :: r) (by simp) _ h
      obtain ⟨hr, hl⟩ := isOf_iff.mp hi
      refine ⟨ofL a :: M, by rw [h1]; simp, by rw [List.all_cons, hr, h2]; rfl, ?_⟩
      rw [Spl.glue_cons (by simp), ← h3]
      show lineL (ofL a) ++ 10 :: rowL M = _
      rw [hl]
    · rw [if_neg hi] at h
      cases h
theorem goL_no : ∀ (ls : List (List UInt8)) (acc), (goL ls acc).2.2 ≠ 0 → (goL ls acc).1 = []
  | [], acc, h => absurd rfl h
  | [a], acc, h => by
    unfold goL at h ⊢
    by_cases h0 : a = []
    · rw [if_pos h0] at h; exact absurd rfl h
    · rw [if_neg h0]
  | a :: b :: r, acc, h => by
    unfold goL at h ⊢
    by_cases hi : isOf (ofL a) a = true
    · rw [if_pos hi] at h ⊢
      exact goL_no (b :: r) _ h
    · rw [if_neg hi]
theorem goL_row : ∀ (l : List S34), l.all right = true → ∀ acc, goL (spl 10 (rowL l)) acc = (acc ++ l, ((acc.length + l.length : Nat) : Int), 0)
  | [], _, acc => by
    show goL [[]] acc = _
    unfold goL
    rw [if_pos rfl, List.append_nil]
    simp
  | x :: r, h, acc => by
    rw [List.all_cons, Bool.and_eq_true] at h
    have ih := goL_row r h.2 (acc ++ [x])
    have hx : ofL (lineL x) = x := ofL_is (isOf_iff.mpr ⟨h.1, rfl⟩)
    have hi : isOf (ofL (lineL x)) (lineL x) = true := by rw [hx]; exact isOf_iff.mpr ⟨h.1, rfl⟩
    show goL (spl 10 (lineL x ++ 10 :: rowL r)) acc = _
    rw [Spl.spl_hit (line_free h.1)]
    obtain ⟨p, q, hp⟩ : ∃ p q, spl 10 (rowL r) = p :: q := by
      rcases hq : spl 10 (rowL r) with _ | ⟨p, q⟩
      · exact absurd hq (Spl.spl_ne 10 _)
      · exact ⟨p, q, rfl⟩
    rw [hp] at ih ⊢
    unfold goL
    rw [if_pos hi, hx, ih]
    simp
    omega
theorem row_len : ∀ l : List S34, l.length ≤ (rowL l).length
  | [] => Nat.le_refl _
  | x :: r => by
    have := row_len r
    show r.length + 1 ≤ (lineL x ++ 10 :: rowL r).length
    simp; omega
theorem row_le : ∀ l : List S34, l.all right = true → (rowL l).length ≤ 61 * l.length
  | [], _ => Nat.le_refl _
  | x :: r, h => by
    rw [List.all_cons, Bool.and_eq_true] at h
    have := row_le r h.2
    have := line_len h.1
    show (lineL x ++ 10 :: rowL r).length ≤ 61 * (r.length + 1)
    simp; omega
theorem same_l0 (l : List S34) (hl : l.length ≤ 1000000) (d : Nat) : ∀ n, n ≤ l.length → l.length - n = d → ∀ k, d + 1 ≤ k → supercargoref22_Same.l0 k l l n = some true := by
  induction d with
  | zero =>
    intro n hn hd k hk
    obtain ⟨k, rfl⟩ : ∃ m, k = m + 1 := ⟨k - 1, by omega⟩
    simp only [supercargoref22_Same.l0]
    rw [if_neg (by omega)]
  | succ d ih =>
    intro n hn hd k hk
    obtain ⟨k, rfl⟩ : ∃ m, k = m + 1 := ⟨k - 1, by omega⟩
    simp only [supercargoref22_Same.l0]
    rw [if_pos (by omega), if_pos (by omega), if_pos (by omega), if_neg (by simp), wrap_next (by omega)]
    exact ih (n + 1) (by omega) (by omega) k (by omega)
theorem same_eq (l : List S34) (hl : l.length ≤ 1000000) (k : Nat) (hk : l.length + 1 ≤ k) : supercargoref22_Same.f k l l = some true := by
  unfold supercargoref22_Same.f
  rw [if_pos rfl]
  exact same_l0 l hl l.length 0 (by omega) (by omega) k (by omega)
end Go.Proofs.YtjmbglgchmhahaaDoor.Pure
