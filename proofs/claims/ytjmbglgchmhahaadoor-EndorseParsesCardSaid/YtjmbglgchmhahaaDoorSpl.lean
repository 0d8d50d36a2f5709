/- Texts cut at one sign: plain lists of bytes. -/
import Derived.Lib.SplitLaws
import Derived.Lib.IndexMore
namespace Spl
open Go.Lib
def spl (c : UInt8) : List UInt8 → List (List UInt8)
  | [] => [[]]
  | x :: r => if x = c then [] :: spl c r else match spl c r with | [] => [[x]] | h :: t => (x :: h) :: t
theorem spl_none {c : UInt8} : ∀ {l : List UInt8}, c ∉ l → spl c l = [l]
  | [], _ => rfl
  | x :: r, h => by
    have h1 : ¬ x = c := fun e => h (by rw [e]; exact List.mem_cons_self)
    have h2 : c ∉ r := fun e => h (List.mem_cons_of_mem _ e)
    rw [spl, if_neg h1, spl_none h2]
theorem spl_hit {c : UInt8} {b : List UInt8} : ∀ {a : List UInt8}, c ∉ a → spl c (a ++ c :: b) = a :: spl c b
  | [], _ => by rw [List.nil_append, spl, if_pos rfl]
  | x :: r, h => by
    have h1 : ¬ x = c := fun e => h (by rw [e]; exact List.mem_cons_self)
    have h2 : c ∉ r := fun e => h (List.mem_cons_of_mem _ e)
    rw [List.cons_append, spl, if_neg h1, spl_hit h2]
theorem first (c : UInt8) : ∀ l : List UInt8, c ∉ l ∨ ∃ a b, l = a ++ c :: b ∧ c ∉ a
  | [] => .inl (by simp)
  | x :: r => by
    by_cases h1 : x = c
    · exact .inr ⟨[], r, by rw [h1]; rfl, by simp⟩
    · rcases first c r with h | ⟨a, b, e, h⟩
      · exact .inl (fun hm => by rcases List.mem_cons.1 hm with e | e; exact h1 e.symm; exact h e)
      · exact .inr ⟨x :: a, b, by rw [e]; rfl, fun hm => by rcases List.mem_cons.1 hm with e | e; exact h1 e.symm; exact h e⟩
theorem index_hit1 {c : UInt8} {b : List UInt8} : ∀ {a : List UInt8}, c ∉ a → index (a ++ c :: b) [c] = (a.length : Int)
  | [], _ => by simp [index]
  | x :: r, h => by
    have h1 : ¬ x = c := fun e => h (by rw [e]; exact List.mem_cons_self)
    have h2 : c ∉ r := fun e => h (List.mem_cons_of_mem _ e)
    have h3 : (c == x) = false := by simpa using fun e => h1 e.symm
    have ih := index_hit1 (b := b) h2
    rw [List.cons_append, index, ih]
    have h4 : ¬ ((r.length : Int) == -1) = true := by simp
    rw [if_neg (by simp [List.isPrefixOf, h3]), if_neg h4]
    simp
theorem index_none1 {c : UInt8} : ∀ {l : List UInt8}, c ∉ l → index l [c] = -1
  | [], _ => by simp [index]
  | x :: r, h => by
    have h1 : ¬ x = c := fun e => h (by rw [e]; exact List.mem_cons_self)
    have h2 : c ∉ r := fun e => h (List.mem_cons_of_mem _ e)
    have h3 : (c == x) = false := by simpa using fun e => h1 e.symm
    rw [index, index_none1 h2, if_neg (by simp [List.isPrefixOf, h3]), if_pos (by decide)]
theorem cut_hit {c : UInt8} {a b : List UInt8} (h : c ∉ a) : cut (a ++ c :: b) [c] = (a, b, true) := by
  unfold cut
  rw [index_hit1 h, if_pos (by omega), Int.toNat_natCast]
  simp
theorem cut_none {c : UInt8} {l : List UInt8} (h : c ∉ l) : cut l [c] = (l, [], false) := by
  unfold cut
  rw [index_none1 h, if_neg (by omega)]
theorem split_eq (c : UInt8) (n : Nat) : ∀ l : List UInt8, l.length ≤ n → splitK [c] 0 (count l [c]) l = spl c l := by
  induction n with
  | zero =>
    intro l hl
    have : l = [] := List.length_eq_zero_iff.mp (by omega)
    subst this
    rw [count_one]
    rfl
  | succ n ih =>
    intro l hl
    rcases first c l with h | ⟨a, b, e, h⟩
    · rw [count_one, List.count_eq_zero_of_not_mem h, spl_none h]; rfl
    · subst e
      have hb : b.length ≤ n := by simp at hl; omega
      have IH := ih b hb
      rw [count_one, List.count_append, List.count_eq_zero_of_not_mem h, List.count_cons_self, Nat.zero_add, ← count_one, splitK, index_hit1 h]
      have h4 : ¬ ((a.length : Int) == -1) = true := by simp
      rw [if_neg h4, Int.toNat_natCast, spl_hit h]
      have e1 : (a ++ c :: b).take (a.length + 0) = a := by simp
      have e2 : (a ++ c :: b).drop (a.length + [c].length) = b := by simp
      rw [e1, e2, IH]
theorem splitB_eq (s : ByteArray) (c : UInt8) : splitB ⟨#[c]⟩ 0 (countB s ⟨#[c]⟩) s = (spl c s.data.toList).map (fun l => (⟨l.toArray⟩ : ByteArray)) := by
  have e := splitB_data ⟨#[c]⟩ 0 (countB s ⟨#[c]⟩) s
  have e2 : splitK [c] 0 (count s.data.toList [c]) s.data.toList = spl c s.data.toList := split_eq c _ _ (Nat.le_refl _)
  rw [show splitK (⟨#[c]⟩ : ByteArray).data.toList 0 (countB s ⟨#[c]⟩) s.data.toList = splitK [c] 0 (count s.data.toList [c]) s.data.toList from rfl, e2] at e
  rw [← e, List.map_map]
  have : ((fun l : List UInt8 => (⟨l.toArray⟩ : ByteArray)) ∘ fun x : ByteArray => x.data.toList) = id := by
    funext x; cases x; rfl
  rw [this, List.map_id]
/-- The pieces, laid behind one another with the sign between. -/
def glue (c : UInt8) : List (List UInt8) → List UInt8
  | [] => []
  | [a] => a
  | a :: b :: r => a ++ c :: glue c (b :: r)
theorem glue_cons {c : UInt8} {a : List UInt8} {r : List (List UInt8)} (h : r ≠ []) : glue c (a :: r) = a ++ c :: glue c r := by
  cases r with
  | nil => exact absurd rfl h
  | cons b r => rfl
theorem spl_ne (c : UInt8) (l : List UInt8) : spl c l ≠ [] := by
  rcases first c l with h | ⟨a, b, e, h⟩
  · rw [spl_none h]; simp
  · rw [e, spl_hit h]; simp
theorem spl_length_le (c : UInt8) (n : Nat) : ∀ l : List UInt8, l.length ≤ n → (spl c l).length ≤ l.length + 1 := by
  induction n with
  | zero =>
    intro l hl
    have : l = [] := List.length_eq_zero_iff.mp (by omega)
    subst this
    simp [spl]
  | succ n ih =>
    intro l hl
    rcases first c l with h | ⟨a, b, e, h⟩
    · rw [spl_none h]; simp
    · subst e
      have hb : b.length ≤ n := by simp at hl; omega
      have := ih b hb
      rw [spl_hit h]; simp; omega
/-- No piece is longer than the whole, none bears the sign. -/
theorem spl_piece (c : UInt8) (n : Nat) : ∀ l : List UInt8, l.length ≤ n → ∀ p ∈ spl c l, p.length ≤ l.length ∧ c ∉ p := by
  induction n with
  | zero =>
    intro l hl p hp
    have : l = [] := List.length_eq_zero_iff.mp (by omega)
    subst this
    simp [spl] at hp
    subst hp
    simp
  | succ n ih =>
    intro l hl p hp
    rcases first c l with h | ⟨a, b, e, h⟩
    · rw [spl_none h, List.mem_singleton] at hp
      subst hp
      exact ⟨Nat.le_refl _, h⟩
    · subst e
      have hb : b.length ≤ n := by simp at hl; omega
      rw [spl_hit h] at hp
      rcases List.mem_cons.1 hp with rfl | hp
      · exact ⟨by simp, h⟩
      · have := ih b hb p hp
        exact ⟨by simp; omega, this.2⟩
end Spl
