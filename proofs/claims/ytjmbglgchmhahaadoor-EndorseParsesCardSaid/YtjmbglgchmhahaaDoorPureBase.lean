import Derived.Test.YtjmbglgchmhahaaDoorPx3
import Derived.Test.YtjmbglgchmhahaaDoorPx4
import Derived.Test.YtjmbglgchmhahaaDoorPx5
import Derived.Test.YtjmbglgchmhahaaDoorPx9
/- What the functions of endorse, printed, come to: a chain of endorsements is gone through from its begin; in plain Lean. -/
namespace Go.Proofs.YtjmbglgchmhahaaDoor.Pure
open Go.RowKit Go.Proofs.YtjmbglgchmhahaaDoor.P Go.Proofs.YtjmbglgchmhahaaDoorW.PrintWords Go.Proofs.YtjmbglgchmhahaaDoorW.PrintLast Go.Proofs.YtjmbglgchmhahaaDoorW.PrintMore

abbrev nm (s : ByteArray) : Bool := MarkName.nameB s
def em : ByteArray := (⟨#[]⟩ : ByteArray)
def rightB (a b : ByteArray) (c d : Int) : Bool :=
  if nm a = true then if d < 0 then false else if d > 1048576 then false else if c = 0 ∨ c = 2 then nm b && (b.toList != a.toList) else if c = 1 then b.toList == [] else false else false
def right (x : S34) : Bool := rightB x.f0 x.f1 x.f2 x.f3

theorem right_eq (k : Nat) (a b : ByteArray) (c d : Int) : endorse_right.f (k + 3) a b c d = some (rightB a b c d) := by
  unfold endorse_right.f rightB
  simp only [mark_Name.f, Option.bind_some, endorse_right.j0, endorse_right.j1]
  by_cases h1 : nm a = true
  · by_cases h2 : d < 0
    · simp [h1, h2]
    · by_cases h3 : d > 1048576
      · simp [h1, h2, h3]
      · by_cases h4 : c = 0
        · subst h4
          by_cases h5 : nm b = true
          · simp [h1, h2, h3, h5]
          · simp [h1, h2, h3, h5]
        · by_cases h5 : c = 2
          · subst h5
            by_cases h6 : nm b = true
            · simp [h1, h2, h3, h6]
            · simp [h1, h2, h3, h6]
          · by_cases h6 : c = 1
            · subst h6
              simp [h1, h2, h3]
            · simp [h1, h2, h3, h4, h5, h6]
  · simp [h1]

/-- How a chain stands. -/
structure St where
  holder : ByteArray
  blank : Bool
  ended : Bool
  day : Int
def on (x : S34) : St := ⟨x.f1, x.f2 == 1, x.f2 == 2, x.f3⟩
def wrong (s : St) (x : S34) : Int :=
  if right x = true then if s.ended = true then 9 else if s.blank = false ∧ x.f0.toList ≠ s.holder.toList then 8 else if x.f3 < s.day then 6 else 0 else 2
theorem wrong_eq (k : Nat) (s : St) (x : S34) : endorse_chain_wrong.f (k + 3) s.holder s.blank s.ended s.day x.f0 x.f1 x.f2 x.f3 = some (wrong s x) := by
  unfold endorse_chain_wrong.f wrong right
  rw [right_eq]
  simp only [Option.bind_some, endorse_chain_wrong.j0]
  by_cases h1 : rightB x.f0 x.f1 x.f2 x.f3 = true
  · by_cases h2 : s.ended = true
    · simp [h1, h2]
    · by_cases h3 : s.blank = true
      · simp [h1, h2, h3]
        split <;> rfl
      · by_cases h4 : x.f0.toList = s.holder.toList
        · simp [h1, h2, h3, h4]
          split <;> rfl
        · simp [h1, h2, h3, h4]
  · simp [h1]

theorem wrong_eq' (k : Nat) (hk : 3 ≤ k) (s : St) (x : S34) : endorse_chain_wrong.f k s.holder s.blank s.ended s.day x.f0 x.f1 x.f2 x.f3 = some (wrong s x) := by
  obtain ⟨m, rfl⟩ : ∃ m, k = m + 3 := ⟨k - 3, by omega⟩
  exact wrong_eq m s x

/-- Gone through from a state, the next one's number being 'at'. -/
def go (s : St) (n : Nat) : List S34 → St × Nat × Int
  | [] => (s, n, 0)
  | x :: r => if wrong s x = 0 then go (on x) (n + 1) r else (⟨em, false, false, 0⟩, n, wrong s x)
abbrev flat (r : St × Nat × Int) : ByteArray × Bool × Bool × Int × Int × Int := (r.1.holder, r.1.blank, r.1.ended, r.1.day, (r.2.1 : Int), r.2.2)

theorem rd_at {l : List S34} {n : Nat} (h : n < l.length) : rd_T34 l (n : Int) = l[n] := by
  unfold rd_T34
  rw [Int.toNat_natCast, List.getD_eq_getElem?_getD, List.getElem?_eq_getElem h]
  rfl
theorem wrap_next {n : Nat} (h : n < 4611686018427387904) : wrap64 ((n : Int) + 1) = ((n + 1 : Nat) : Int) := by
  unfold wrap64; omega

theorem follow_l0 (l : List S34) (hl : l.length ≤ 1000000) (d : Nat) : ∀ (n : Nat) (s : St), n ≤ l.length → l.length - n = d →
    ∀ k, d + 4 ≤ k → endorse_follow.l0 k l n s.holder s.blank s.ended s.day = some (flat (go s n (l.drop n))) := by
  induction d with
  | zero =>
    intro n s hn hd k hk
    obtain ⟨k, rfl⟩ : ∃ m, k = m + 1 := ⟨k - 1, by omega⟩
    have e : n = l.length := by omega
    simp only [endorse_follow.l0]
    rw [if_pos (by omega), List.drop_of_length_le (by omega)]
    simp [go]
  | succ d ih =>
    intro n s hn hd k hk
    obtain ⟨k, rfl⟩ : ∃ m, k = m + 1 := ⟨k - 1, by omega⟩
    have hlt : n < l.length := by omega
    simp only [endorse_follow.l0]
    rw [if_neg (show ¬ (n : Int) = (l.length : Int) by omega), if_pos (show (0 : Int) ≤ (n : Int) by omega), if_pos (show (n : Int) < (l.length : Int) by omega), rd_at hlt, wrong_eq' k (by omega) s l[n], List.drop_eq_getElem_cons hlt]
    simp only [Option.bind_some, go]
    by_cases h0 : wrong s l[n] = 0
    · rw [if_pos h0, if_pos h0]
      have IH := ih (n + 1) (on l[n]) (by omega) (by omega) k (by omega)
      rw [wrap_next (show n < 4611686018427387904 by omega)]
      simp only [endorse_on.f, Option.bind_some]
      exact IH
    · rw [if_neg h0, if_neg h0]
      rfl

def start (first : ByteArray) : St := ⟨first, false, false, 0⟩
def chain (first : ByteArray) (l : List S34) : St × Nat × Int := if nm first = true then go (start first) 0 l else (⟨em, false, false, 0⟩, 0, 1)
theorem follow_eq (first : ByteArray) (l : List S34) (hl : l.length ≤ 1000000) (k : Nat) (hk : l.length + 4 ≤ k) : endorse_follow.f k first l = some (flat (chain first l)) := by
  unfold endorse_follow.f chain
  simp only [mark_Name.f, Option.bind_some]
  by_cases h : nm first = true
  · rw [if_pos h, if_pos h]
    exact follow_l0 l hl l.length 0 (start first) (by omega) (by omega) k (by omega)
  · rw [if_neg h, if_neg h]
    rfl
theorem check_eq (first : ByteArray) (l : List S34) (hl : l.length ≤ 1000000) (k : Nat) (hk : l.length + 4 ≤ k) : endorse_Check.f k first l = some ((chain first l).1.holder, ((chain first l).2.1 : Int), (chain first l).2.2) := by
  unfold endorse_Check.f
  rw [follow_eq first l hl k hk]
  rfl

/-! The reference's names, endorsements, chains. -/
theorem bt_at {s : ByteArray} {n : Nat} (h : n < s.size) : bt s (n : Int) = ((s[n]).toNat : Int) := by
  unfold bt
  rw [Int.toNat_natCast, dif_pos h]
theorem all_snoc (s : ByteArray) (n : Nat) (h : n < s.size) : (s.data.toList.drop n).all (fun c => MarkName.okI (c.toNat : Int)) = (MarkName.okI ((s[n]).toNat : Int) && (s.data.toList.drop (n + 1)).all (fun c => MarkName.okI (c.toNat : Int))) := by
  have h' : n < s.data.toList.length := by simpa using h
  rw [List.drop_eq_getElem_cons h', List.all_cons]
  rfl
theorem name_l0 (s : ByteArray) (hs : s.size ≤ 1000000) (d : Nat) : ∀ n, n ≤ s.size → s.size - n = d → ∀ k, 2 * d + 4 ≤ k →
    supercargoref06_Name.l0 k s (n : Int) = some ((s.data.toList.drop n).all (fun c => MarkName.okI (c.toNat : Int)) && (decide (1 ≤ s.size) && decide (s.size ≤ 16))) := by
  induction d with
  | zero =>
    intro n hn hd k hk
    obtain ⟨k, rfl⟩ : ∃ m, k = m + 1 := ⟨k - 1, by omega⟩
    simp only [supercargoref06_Name.l0]
    rw [if_neg (by omega), List.drop_of_length_le (by simp; omega)]
    by_cases h1 : 1 ≤ s.size
    · rw [if_pos (by omega)]
      simp [h1]
      omega
    · rw [if_neg (by omega)]
      simp [h1]
  | succ d ih =>
    intro n hn hd k hk
    obtain ⟨k, rfl⟩ : ∃ m, k = m + 1 := ⟨k - 1, by omega⟩
    have hlt : n < s.size := by omega
    have IH := ih (n + 1) (by omega) (by omega) k (by omega)
    simp only [supercargoref06_Name.l0]
    rw [if_pos (by omega), if_pos (by omega), bt_at hlt, all_snoc s n hlt, wrap_next (show n < 4611686018427387904 by omega), IH]
    generalize (s[n].toNat : Int) = c
    generalize (List.drop (n + 1) s.data.toList).all (fun c => MarkName.okI (c.toNat : Int)) = A
    generalize (decide (1 ≤ s.size) && decide (s.size ≤ 16)) = B
    unfold MarkName.okI
    have h45 : ∀ x : Int, x ≠ 45 → (x == 45) = false := fun x h => by simpa using h
    by_cases h1 : 97 ≤ c
    · rw [if_pos (by omega)]
      by_cases h2 : c ≤ 122
      · rw [if_pos h2]; simp [h1, h2]
      · rw [if_neg h2]
        rw [if_pos (by omega), if_neg (by omega), if_neg (by omega), h45 c (by omega)]
        have h4 : ¬ c ≤ 57 := by omega
        simp [h2, h4]
    · rw [if_neg (by omega)]
      by_cases h2 : 48 ≤ c
      · rw [if_pos (by omega)]
        by_cases h3 : c ≤ 57
        · rw [if_pos h3]; simp [h2, h3]
        · rw [if_neg h3, if_neg (by omega), h45 c (by omega)]
          simp [h1, h3]
      · rw [if_neg (by omega)]
        by_cases h3 : c = 45
        · rw [if_pos h3]; subst h3; simp
        · rw [if_neg h3, h45 c h3]; simp [h1, h2]
theorem refName_eq (s : ByteArray) (hs : s.size ≤ 1000000) (k : Nat) (hk : 2 * s.size + 4 ≤ k) : supercargoref06_Name.f k s = some (nm s) := by
  unfold supercargoref06_Name.f
  have := name_l0 s hs s.size 0 (by omega) (by omega) k (by omega)
  rw [show ((0 : Nat) : Int) = 0 from rfl] at this
  rw [this]
  unfold nm MarkName.nameB MarkName.allB
  rw [List.drop_zero, Bool.and_comm, Bool.and_assoc]
end Go.Proofs.YtjmbglgchmhahaaDoor.Pure
