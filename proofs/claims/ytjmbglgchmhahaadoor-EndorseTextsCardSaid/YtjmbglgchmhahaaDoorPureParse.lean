/- A text, line by line: the program's reading and the document's are alike. -/
import Derived.Test.YtjmbglgchmhahaaDoorPureRead
import Derived.Test.YtjmbglgchmhahaaDoorPx15
namespace Go.Proofs.YtjmbglgchmhahaaDoor.Pure
open Go.RowKit Go.Proofs.YtjmbglgchmhahaaDoor.P Go.Proofs.YtjmbglgchmhahaaDoorW.PrintWords Go.Proofs.YtjmbglgchmhahaaDoorW.PrintLast Go.Proofs.YtjmbglgchmhahaaDoorW.PrintMore
open Lib (decDigits)
open Spl (spl glue)
theorem readX_is {s : List UInt8} {v : Int} (hv : v = atoiV (rdB (pcs 32 s) (((pcs 32 s).length : Int) - 1)).data.toList) {y : S34} (h : isOf y s = true) : readX (pcs 32 s) v = y := by
  obtain ⟨hr, rfl⟩ := isOf_iff.mp h
  rw [hv]
  exact readX_of hr
/-- The endorsement of a line. -/
def ofL (s : List UInt8) : S34 := readX (pcs 32 s) (atoiV (rdB (pcs 32 s) (((pcs 32 s).length : Int) - 1)).data.toList)
theorem ofL_is {s : List UInt8} {y : S34} (h : isOf y s = true) : ofL s = y := readX_is rfl h
/-- Line by line. -/
def goL : List (List UInt8) → List S34 → List S34 × Int × Int
  | [], acc => (acc, (acc.length : Int), 0)
  | [a], acc => if a = [] then (acc, (acc.length : Int), 0) else ([], (acc.length : Int), 2)
  | a :: b :: r, acc => if isOf (ofL a) a = true then goL (b :: r) (acc ++ [ofL a]) else ([], (acc.length : Int), 2)
theorem read_of {s : List UInt8} (hs : s.length ≤ 4000) {k : Nat} (hk : 20 ≤ k) : ∃ x : S34, endorse_read.f k (strD s) = some (x.f0, x.f1, x.f2, x.f3, isOf x s) ∧ isOf x s = isOf (ofL s) s ∧ (isOf x s = true → x = ofL s) := by
  obtain ⟨v, hv, h⟩ := read_eq (s := s) (by omega) hk
  refine ⟨_, h, ?_, ?_⟩
  · rw [hv]; rfl
  · intro _; rw [hv]; rfl
theorem isOf_nil (x : S34) : isOf x [] = false := by
  rw [Bool.eq_false_iff]
  intro h
  obtain ⟨_, h2⟩ := isOf_iff.mp h
  unfold lineL at h2
  split at h2 <;> simp at h2
theorem parse_l0 (d : Nat) : ∀ (s : List UInt8) (acc : List S34) (k : Nat), s.length ≤ d → s.length ≤ 4000 → acc.length + s.length ≤ 4000 → d + 40 ≤ k →
    endorse_Parse.l0 k (strD s) acc = some (goL (spl 10 s) acc) := by
  induction d with
  | zero =>
    intro s acc k hd hs ha hk
    obtain ⟨k, rfl⟩ : ∃ j, k = j + 1 := ⟨k - 1, by omega⟩
    have : s = [] := List.length_eq_zero_iff.mp (by omega)
    subst this
    simp only [endorse_Parse.l0]
    rw [if_pos (by rw [strD_toList])]
    simp [spl, goL]
  | succ d ih =>
    intro s acc k hd hs ha hk
    obtain ⟨k, rfl⟩ : ∃ j, k = j + 1 := ⟨k - 1, by omega⟩
    simp only [endorse_Parse.l0]
    by_cases h0 : s = []
    · subst h0
      rw [if_pos (by rw [strD_toList])]
      simp [spl, goL]
    · rw [if_neg (by rw [strD_toList]; exact h0), cut_eq (by omega), Option.bind_some]
      simp only []
      rcases Spl.first 10 s with h | ⟨a, b, e, h⟩
      · rw [Spl.cut_none h]
        simp only []
        obtain ⟨x, hx, _, _⟩ := read_of (s := s) hs (k := k) (by omega)
        rw [hx, Option.bind_some, if_neg Bool.false_ne_true, Spl.spl_none h]
        unfold goL
        rw [if_neg h0]
      · subst e
        have hlen : (a ++ 10 :: b).length = a.length + (b.length + 1) := by simp
        rw [Spl.cut_hit h]
        simp only []
        obtain ⟨x, hx, h1, h2⟩ := read_of (s := a) (by omega) (k := k) (by omega)
        rw [hx, Option.bind_some, if_pos trivial, Spl.spl_hit h]
        simp only []
        obtain ⟨p, q, hp⟩ : ∃ p q, spl 10 b = p :: q := by
          rcases hq : spl 10 b with _ | ⟨p, q⟩
          · exact absurd hq (Spl.spl_ne 10 b)
          · exact ⟨p, q, rfl⟩
        by_cases hi : isOf x a = true
        · have e2 := h2 hi
          rw [if_pos hi, if_pos (by omega)]
          have I := ih b (acc ++ [ofL a]) k (by omega) (by omega) (by simp; omega) (by omega)
          rw [show (⟨x.f0, x.f1, x.f2, x.f3⟩ : S34) = ofL a by rw [← e2], I, hp]
          conv => rhs; unfold goL
          rw [if_pos (by rw [← h1]; exact hi)]
        · rw [if_neg hi, hp]
          unfold goL
          rw [if_neg (by rw [← h1]; exact hi)]
theorem parse_eq {s : List UInt8} (hs : s.length ≤ 4000) {k : Nat} (hk : 4100 ≤ k) : endorse_Parse.f k (strD s) = some (goL (spl 10 s) []) := by
  unfold endorse_Parse.f
  exact parse_l0 s.length s [] k (Nat.le_refl _) hs (by simpa using hs) (by omega)
end Go.Proofs.YtjmbglgchmhahaaDoor.Pure
