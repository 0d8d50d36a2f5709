/- What is printed is parsed; what is parsed is printed as it was: plain rows of endorsements. -/
import Derived.Test.YtjmbglgchmhahaaDoorPureSplit
import Derived.Test.YtjmbglgchmhahaaDoorPx14
import Derived.Test.YtjmbglgchmhahaaDoorPx15
namespace Go.Proofs.YtjmbglgchmhahaaDoor.Pure
open Go.RowKit Go.Proofs.YtjmbglgchmhahaaDoor.P Go.Proofs.YtjmbglgchmhahaaDoorW.PrintWords Go.Proofs.YtjmbglgchmhahaaDoorW.PrintLast Go.Proofs.YtjmbglgchmhahaaDoorW.PrintMore
open Lib (decDigits)
open Spl (spl)
/-- Is a line the one of an endorsement? -/
def isOf (x : S34) (s : List UInt8) : Bool := right x && (lineL x == s)
theorem isOf_iff {x : S34} {s : List UInt8} : isOf x s = true ↔ right x = true ∧ lineL x = s := by
  unfold isOf; rw [Bool.and_eq_true, beq_iff_eq]
theorem ok_ne {c : UInt8} (h : MarkName.okI (c.toNat : Int) = true) : c ≠ 32 ∧ c ≠ 10 := by
  constructor
  · rintro rfl; revert h; decide
  · rintro rfl; revert h; decide
theorem dig_ne {l : List UInt8} (h : l.all Dec.isDig = true) : (32 : UInt8) ∉ l ∧ (10 : UInt8) ∉ l := by
  rw [List.all_eq_true] at h
  constructor
  · intro hm; have := h _ hm; revert this; decide
  · intro hm; have := h _ hm; revert this; decide
theorem nm_free {s : ByteArray} (h : nm s = true) : (32 : UInt8) ∉ s.data.toList ∧ (10 : UInt8) ∉ s.data.toList := by
  have := (nm_len h).2.2
  exact ⟨fun hm => (ok_ne (this _ hm)).1 rfl, fun hm => (ok_ne (this _ hm)).2 rfl⟩
theorem word_free (k : Int) : (32 : UInt8) ∉ wordL k ∧ (10 : UInt8) ∉ wordL k := by
  unfold wordL
  split
  · decide
  · split <;> decide
theorem line_spl {x : S34} (h : right x = true) : spl 32 (lineL x) = if x.f2 = 1 then [wordL x.f2, x.f0.data.toList, dayL x] else [wordL x.f2, x.f0.data.toList, x.f1.data.toList, dayL x] := by
  obtain ⟨hk, h0, h1, n0, _, n1⟩ := right_kind h
  have w := (word_free x.f2).1
  have a := (nm_free n0).1
  have d := (dig_ne (Dec.dec_all x.f3.toNat)).1
  unfold lineL dayL
  by_cases k1 : x.f2 = 1
  · rw [if_pos k1, if_pos k1, Spl.spl_hit w, Spl.spl_hit a, Spl.spl_none d]
  · have b := (nm_free (n1 k1).1).1
    rw [if_neg k1, if_neg k1, Spl.spl_hit w, Spl.spl_hit a, Spl.spl_hit b, Spl.spl_none d]
theorem line_free {x : S34} (h : right x = true) : (10 : UInt8) ∉ lineL x := by
  obtain ⟨hk, h0, h1, n0, _, n1⟩ := right_kind h
  have w := (word_free x.f2).2
  have a := (nm_free n0).2
  have d := (dig_ne (Dec.dec_all x.f3.toNat)).2
  unfold lineL dayL
  have e : (10 : UInt8) ≠ 32 := by decide
  by_cases k1 : x.f2 = 1
  · rw [if_pos k1]
    simp only [List.mem_append, List.mem_cons, not_or]
    exact ⟨w, e, a, e, d⟩
  · have b := (nm_free (n1 k1).1).2
    rw [if_neg k1]
    simp only [List.mem_append, List.mem_cons, not_or]
    exact ⟨w, e, a, e, b, e, d⟩
theorem em_of {s : ByteArray} (h : s.toList = []) : s = em := by
  rw [ByteArray.toList_eq] at h
  rw [← strD_self s, h]; rfl
abbrev rdB (ps : List ByteArray) (i : Int) : ByteArray := rdOf ByteArray.empty ps i
/-- What is read of the pieces of a line. -/
def readX (ps : List ByteArray) (v : Int) : S34 :=
  if ps.length = 4 ∧ (rdB ps 0).toList = [111, 114, 100, 101, 114] then ⟨rdB ps 1, rdB ps 2, 0, v⟩
  else if ps.length = 3 ∧ (rdB ps 0).toList = [98, 108, 97, 110, 107] then ⟨rdB ps 1, em, 1, v⟩
  else if ps.length = 4 ∧ (rdB ps 0).toList = [111, 110, 108, 121] then ⟨rdB ps 1, rdB ps 2, 2, v⟩
  else ⟨em, em, -1, v⟩
theorem fin_eq (x : S34) (s : List UInt8) {k : Nat} (hk : 3 ≤ k) :
    ((endorse_right.f k x.f0 x.f1 x.f2 x.f3).bind fun t => if t = true then ((endorse_line.f x.f0 x.f1 x.f2 x.f3).bind fun u => some (x.f0, x.f1, x.f2, x.f3, (u.toList == (strD s).toList))) else some (x.f0, x.f1, x.f2, x.f3, false)) = some (x.f0, x.f1, x.f2, x.f3, isOf x s) := by
  obtain ⟨k, rfl⟩ : ∃ j, k = j + 3 := ⟨k - 3, by omega⟩
  rw [right_eq, Option.bind_some, show rightB x.f0 x.f1 x.f2 x.f3 = right x from rfl]
  unfold isOf
  by_cases h : right x = true
  · rw [if_pos h, line_eq h, Option.bind_some, h, Bool.true_and, strD_toList, strD_toList]
  · rw [if_neg h, Bool.eq_false_iff.mpr h, Bool.false_and]
theorem read_j2 (x : S34) (s : List UInt8) {k : Nat} (hk : 6 ≤ k) : endorse_read.j2 k (strD s) x.f0 x.f1 x.f2 x.f3 = some (x.f0, x.f1, x.f2, x.f3, isOf x s) := by
  obtain ⟨k, rfl⟩ : ∃ j, k = j + 1 := ⟨k - 1, by omega⟩
  simp only [endorse_read.j2]
  exact fin_eq x s (k := k) (by omega)
theorem read_eq {s : List UInt8} (hs : s.length ≤ 4000000) {k : Nat} (hk : 20 ≤ k) :
    ∃ v, v = atoiV (rdB (pcs 32 s) (((pcs 32 s).length : Int) - 1)).data.toList ∧ endorse_read.f k (strD s) = some ((readX (pcs 32 s) v).f0, (readX (pcs 32 s) v).f1, (readX (pcs 32 s) v).f2, (readX (pcs 32 s) v).f3, isOf (readX (pcs 32 s) v) s) := by
  refine ⟨_, rfl, ?_⟩
  have hlen : (pcs 32 s).length ≤ s.length + 1 := by unfold pcs; rw [List.length_map]; exact Spl.spl_length_le 32 _ s (Nat.le_refl _)
  have hpos : 0 < (pcs 32 s).length := by unfold pcs; rw [List.length_map]; exact List.length_pos_iff.mpr (Spl.spl_ne 32 s)
  have hsz : ∀ i : Int, (rdB (pcs 32 s) i).size ≤ 4000000 := by
    intro i
    unfold rdB rdOf
    rw [List.getD_eq_getElem?_getD]
    rcases hg : (pcs 32 s)[i.toNat]? with _ | p
    · decide
    · obtain ⟨hlt, he⟩ := List.getElem?_eq_some_iff.mp hg
      have hm : p ∈ pcs 32 s := by rw [← he]; exact List.getElem_mem hlt
      unfold pcs at hm
      obtain ⟨q, hq, rfl⟩ := List.mem_map.mp hm
      have := (Spl.spl_piece 32 _ s (Nat.le_refl _) q hq).1
      show (strD q).size ≤ 4000000
      rw [strD_size]; omega
  unfold endorse_read.f
  rw [split_eq hs, Option.bind_some]
  generalize pcs 32 s = ps at hlen hpos hsz
  rw [wrap_in (x := (ps.length : Int) - 1) (by omega) (by omega), if_pos (by omega), if_pos (by omega)]
  have ha : strconv_Atoi.f (rdOf ByteArray.empty ps ((ps.length : Int) - 1)) = some (atoiV (rdB ps ((ps.length : Int) - 1)).data.toList, false) := by
    unfold strconv_Atoi.f
    rw [if_pos (by have := hsz ((ps.length : Int) - 1); unfold rdB at this; omega)]
  rw [ha, Option.bind_some]
  simp only []
  generalize atoiV (rdB ps ((ps.length : Int) - 1)).data.toList = v
  obtain ⟨k, rfl⟩ : ∃ j, k = j + 1 := ⟨k - 1, by omega⟩
  obtain ⟨k, rfl⟩ : ∃ j, k = j + 1 := ⟨k - 1, by omega⟩
  have J1 : endorse_read.j1 (k + 1) (strD s) ps (if ps.length = 3 then (rdB ps 0).toList == [98, 108, 97, 110, 107] else false) em em (-1) v =
      (let x : S34 := if ps.length = 3 ∧ (rdB ps 0).toList = [98, 108, 97, 110, 107] then ⟨rdB ps 1, em, 1, v⟩ else if ps.length = 4 ∧ (rdB ps 0).toList = [111, 110, 108, 121] then ⟨rdB ps 1, rdB ps 2, 2, v⟩ else ⟨em, em, -1, v⟩; some (x.f0, x.f1, x.f2, x.f3, isOf x s)) := by
    simp only [endorse_read.j1]
    have third : (if (ps.length : Int) = 4 then (if 0 < (ps.length : Int) then (if (rdOf ByteArray.empty ps 0).toList = ([111, 110, 108, 121] : List UInt8) then (if 1 < (ps.length : Int) then (if 2 < (ps.length : Int) then (endorse_read.j2 k (strD s) (rdOf ByteArray.empty ps 1) (rdOf ByteArray.empty ps 2) 2 v) else (none)) else (none)) else (endorse_read.j2 k (strD s) em em (-1) v)) else (none)) else (endorse_read.j2 k (strD s) em em (-1) v)) =
        (let x : S34 := if ps.length = 4 ∧ (rdB ps 0).toList = [111, 110, 108, 121] then ⟨rdB ps 1, rdB ps 2, 2, v⟩ else ⟨em, em, -1, v⟩; some (x.f0, x.f1, x.f2, x.f3, isOf x s)) := by
      by_cases h4 : ps.length = 4
      · by_cases h : (rdB ps 0).toList = [111, 110, 108, 121]
        · rw [if_pos (by omega), if_pos (by omega), if_pos h, if_pos (by omega), if_pos (by omega), if_pos ⟨h4, h⟩]
          exact read_j2 ⟨rdB ps 1, rdB ps 2, 2, v⟩ s (by omega)
        · rw [if_pos (by omega), if_pos (by omega), if_neg h, if_neg (fun x => h x.2)]
          exact read_j2 ⟨em, em, -1, v⟩ s (by omega)
      · rw [if_neg (by omega), if_neg (fun x => h4 x.1)]
        exact read_j2 ⟨em, em, -1, v⟩ s (by omega)
    by_cases h3 : ps.length = 3
    · by_cases h : (rdB ps 0).toList = [98, 108, 97, 110, 107]
      · rw [if_pos h3, if_pos (by simpa using h), if_pos (by omega), if_pos ⟨h3, h⟩]
        exact read_j2 ⟨rdB ps 1, em, 1, v⟩ s (by omega)
      · have q : ¬ (ps.length = 3 ∧ (rdB ps 0).toList = [98, 108, 97, 110, 107]) := fun x => h x.2
        rw [if_pos h3, if_neg (by simpa using h), if_neg q]
        exact third
    · have q : ¬ (ps.length = 3 ∧ (rdB ps 0).toList = [98, 108, 97, 110, 107]) := fun x => h3 x.1
      rw [if_neg h3, if_neg Bool.false_ne_true, if_neg q]
      exact third
  have rest : (if (ps.length : Int) = 3 then (if 0 < (ps.length : Int) then (endorse_read.j1 (k + 1) (strD s) ps ((rdOf ByteArray.empty ps 0).toList == ([98, 108, 97, 110, 107] : List UInt8)) em em (-1) v) else (none)) else (endorse_read.j1 (k + 1) (strD s) ps false em em (-1) v)) = endorse_read.j1 (k + 1) (strD s) ps (if ps.length = 3 then (rdB ps 0).toList == [98, 108, 97, 110, 107] else false) em em (-1) v := by
    by_cases h3 : ps.length = 3
    · rw [if_pos (by omega), if_pos (by omega), if_pos h3]
    · rw [if_neg (by omega), if_neg h3]
  unfold readX
  by_cases h4 : ps.length = 4
  · rw [if_pos (by omega), if_pos (by omega)]
    simp only [endorse_read.j0]
    by_cases h : (rdB ps 0).toList = [111, 114, 100, 101, 114]
    · rw [if_pos (by simpa using h), if_pos (by omega), if_pos (by omega), if_pos ⟨h4, h⟩]
      exact read_j2 ⟨rdB ps 1, rdB ps 2, 0, v⟩ s (by omega)
    · have q : ¬ (ps.length = 4 ∧ (rdB ps 0).toList = [111, 114, 100, 101, 114]) := fun x => h x.2
      rw [if_neg (by simpa using h), if_neg q]
      exact rest.trans J1
  · have q : ¬ (ps.length = 4 ∧ (rdB ps 0).toList = [111, 114, 100, 101, 114]) := fun x => h4 x.1
    rw [if_neg (show ¬ (ps.length : Int) = 4 by omega)]
    simp only [endorse_read.j0]
    rw [if_neg Bool.false_ne_true, if_neg q]
    exact rest.trans J1
/-- Of a line of a right one just that is read. -/
theorem readX_of {y : S34} (h : right y = true) : readX (pcs 32 (lineL y)) (atoiV (rdB (pcs 32 (lineL y)) (((pcs 32 (lineL y)).length : Int) - 1)).data.toList) = y := by
  obtain ⟨hk, h0, h1, n0, e1, n1⟩ := right_kind h
  have hd : atoiV (dayL y) = y.f3 := by unfold dayL; rw [atoi_day (by omega), Int.toNat_of_nonneg h0]
  have s0 := strD_self y.f0
  have s1 := strD_self y.f1
  unfold pcs
  rw [line_spl h]
  by_cases k1 : y.f2 = 1
  · rw [if_pos k1]
    have hw : wordL y.f2 = [98, 108, 97, 110, 107] := by unfold wordL; rw [if_neg (by omega), if_pos k1]
    simp only [List.map_cons, List.map_nil, List.length_cons, List.length_nil]
    unfold readX
    rw [if_neg (by simp), if_pos ⟨rfl, by show (strD (wordL y.f2)).toList = _; rw [strD_toList, hw]⟩]
    have e : y.f1 = em := em_of (e1 k1)
    show (⟨strD y.f0.data.toList, em, 1, atoiV (strD (dayL y)).data.toList⟩ : S34) = y
    rw [strD_list, hd, s0]
    cases y
    simp_all
  · rw [if_neg k1]
    simp only [List.map_cons, List.map_nil, List.length_cons, List.length_nil]
    unfold readX
    by_cases k0 : y.f2 = 0
    · have hw : wordL y.f2 = [111, 114, 100, 101, 114] := by unfold wordL; rw [if_pos k0]
      rw [if_pos ⟨rfl, by show (strD (wordL y.f2)).toList = _; rw [strD_toList, hw]⟩]
      show (⟨strD y.f0.data.toList, strD y.f1.data.toList, 0, atoiV (strD (dayL y)).data.toList⟩ : S34) = y
      rw [strD_list, hd, s0, s1, ← k0]
    · have k2 : y.f2 = 2 := by omega
      have hw : wordL y.f2 = [111, 110, 108, 121] := by unfold wordL; rw [if_neg k0, if_neg k1]
      have hr : (rdB [strD (wordL y.f2), strD y.f0.data.toList, strD y.f1.data.toList, strD (dayL y)] 0).toList = [111, 110, 108, 121] := by
        show (strD (wordL y.f2)).toList = _
        rw [strD_toList, hw]
      rw [if_neg (by rw [hr]; simp), if_neg (by simp), if_pos ⟨rfl, hr⟩]
      show (⟨strD y.f0.data.toList, strD y.f1.data.toList, 2, atoiV (strD (dayL y)).data.toList⟩ : S34) = y
      rw [strD_list, hd, s0, s1, ← k2]
end Go.Proofs.YtjmbglgchmhahaaDoor.Pure
namespace Go.Proofs.YtjmbglgchmhahaaDoor.Pure
open Go.RowKit Go.Proofs.YtjmbglgchmhahaaDoor.P Go.Proofs.YtjmbglgchmhahaaDoorW.PrintWords Go.Proofs.YtjmbglgchmhahaaDoorW.PrintLast Go.Proofs.YtjmbglgchmhahaaDoorW.PrintMore
open Lib (decDigits)
open Spl (spl glue)
theorem readX_is {s : List UInt8} {v : Int} (hv : v = atoiV (rdB (pcs 32 s) (((pcs 32 s).length : Int) - 1)).data.toList) {y : S34} (h : isOf y s = true) : readX (pcs 32 s) v = y := by
  obtain ⟨hr, rfl⟩ := isOf_iff.mp h
  rw [hv]
  exact readX_of hr
/-- The endorsement of a line. -/
def ofL (s : List UInt8) : S34 := readX (pcs 32 s) (atoiV (rdB (pcs 32 s) (((pcs 32 s).length : Int) - 1)).data.toList)
theorem ofL_is {s : List UInt8} {y : S34} (h : isOf y s = true) : ofL s = y := readX_is rfl h
/-- Line by line. -/
def goL : List (List UInt8) → List S34 → List S34 × Int × Int
  | [], acc => (acc, (acc.length : Int), 0)
  | [a], acc => if a = [] then (acc, (acc.length : Int), 0) else ([], (acc.length : Int), 2)
  | a :: b :: r, acc => if isOf (ofL a) a = true then goL (b :: r) (acc ++ [ofL a]) else ([], (acc.length : Int), 2)
theorem read_of {s : List UInt8} (hs : s.length ≤ 4000) {k : Nat} (hk : 20 ≤ k) : ∃ x : S34, endorse_read.f k (strD s) = some (x.f0, x.f1, x.f2, x.f3, isOf x s) ∧ isOf x s = isOf (ofL s) s ∧ (isOf x s = true → x = ofL s) := by
  obtain ⟨v, hv, h⟩ := read_eq (s := s) (by omega) hk
  refine ⟨_, h, ?_, ?_⟩
  · rw [hv]; rfl
  · intro _; rw [hv]; rfl
theorem isOf_nil (x : S34) : isOf x [] = false := by
  rw [Bool.eq_false_iff]
  intro h
  obtain ⟨_, h2⟩ := isOf_iff.mp h
  unfold lineL at h2
  split at h2 <;> simp at h2
theorem parse_l0 (d : Nat) : ∀ (s : List UInt8) (acc : List S34) (k : Nat), s.length ≤ d → s.length ≤ 4000 → acc.length + s.length ≤ 4000 → d + 40 ≤ k →
    endorse_Parse.l0 k (strD s) acc = some (goL (spl 10 s) acc) := by
  induction d with
  | zero =>
    intro s acc k hd hs ha hk
    obtain ⟨k, rfl⟩ : ∃ j, k = j + 1 := ⟨k - 1, by omega⟩
    have : s = [] := List.length_eq_zero_iff.mp (by omega)
    subst this
    simp only [endorse_Parse.l0]
    rw [if_pos (by rw [strD_toList])]
    simp [spl, goL]
  | succ d ih =>
    intro s acc k hd hs ha hk
    obtain ⟨k, rfl⟩ : ∃ j, k = j + 1 := ⟨k - 1, by omega⟩
    simp only [endorse_Parse.l0]
    by_cases h0 : s = []
    · subst h0
      rw [if_pos (by rw [strD_toList])]
      simp [spl, goL]
    · rw [if_neg (by rw [strD_toList]; exact h0), cut_eq (by omega), Option.bind_some]
      simp only []
      rcases Spl.first 10 s with h | ⟨a, b, e, h⟩
      · rw [Spl.cut_none h]
        simp only []
        obtain ⟨x, hx, _, _⟩ := read_of (s := s) hs (k := k) (by omega)
        rw [hx, Option.bind_some, if_neg Bool.false_ne_true, Spl.spl_none h]
        unfold goL
        rw [if_neg h0]
      · subst e
        have hlen : (a ++ 10 :: b).length = a.length + (b.length + 1) := by simp
        rw [Spl.cut_hit h]
        simp only []
        obtain ⟨x, hx, h1, h2⟩ := read_of (s := a) (by omega) (k := k) (by omega)
        rw [hx, Option.bind_some, if_pos trivial, Spl.spl_hit h]
        simp only []
        obtain ⟨p, q, hp⟩ : ∃ p q, spl 10 b = p :: q := by
          rcases hq : spl 10 b with _ | ⟨p, q⟩
          · exact absurd hq (Spl.spl_ne 10 b)
          · exact ⟨p, q, rfl⟩
        by_cases hi : isOf x a = true
        · have e2 := h2 hi
          rw [if_pos hi, if_pos (by omega)]
          have I := ih b (acc ++ [ofL a]) k (by omega) (by omega) (by simp; omega) (by omega)
          rw [show (⟨x.f0, x.f1, x.f2, x.f3⟩ : S34) = ofL a by rw [← e2], I, hp]
          conv => rhs; unfold goL
          rw [if_pos (by rw [← h1]; exact hi)]
        · rw [if_neg hi, hp]
          unfold goL
          rw [if_neg (by rw [← h1]; exact hi)]
theorem parse_eq {s : List UInt8} (hs : s.length ≤ 4000) {k : Nat} (hk : 4100 ≤ k) : endorse_Parse.f k (strD s) = some (goL (spl 10 s) []) := by
  unfold endorse_Parse.f
  exact parse_l0 s.length s [] k (Nat.le_refl _) hs (by simpa using hs) (by omega)
end Go.Proofs.YtjmbglgchmhahaaDoor.Pure
namespace Go.Proofs.YtjmbglgchmhahaaDoor.Pure
open Go.RowKit Go.Proofs.YtjmbglgchmhahaaDoor.P Go.Proofs.YtjmbglgchmhahaaDoorW.PrintWords Go.Proofs.YtjmbglgchmhahaaDoorW.PrintLast Go.Proofs.YtjmbglgchmhahaaDoorW.PrintMore
open Spl (spl glue)
theorem glue_spl (c : UInt8) (n : Nat) : ∀ l : List UInt8, l.length ≤ n → glue c (spl c l) = l := by
  induction n with
  | zero =>
    intro l hl
    have : l = [] := List.length_eq_zero_iff.mp (by omega)
    subst this
    rfl
  | succ n ih =>
    intro l hl
    rcases Spl.first c l with h | ⟨a, b, e, h⟩
    · rw [Spl.spl_none h]; rfl
    · subst e
      have hb : b.length ≤ n := by simp at hl; omega
      rw [Spl.spl_hit h, Spl.glue_cons (Spl.spl_ne c b), ih b hb]
theorem goL_ok : ∀ (ls : List (List UInt8)), ls ≠ [] → ∀ acc, (goL ls acc).2.2 = 0 → ∃ M, (goL ls acc).1 = acc ++ M ∧ M.all right = true ∧ rowL M = glue 10 ls
  | [], h, _, _ => absurd rfl h
  | [a], _, acc, h => by
    unfold goL at h ⊢
    by_cases h0 : a = []
    · rw [if_pos h0]
      exact ⟨[], by simp, rfl, by rw [h0]; rfl⟩
    · rw [if_neg h0] at h
      cases h
  | a :: b :: r, _, acc, h => by
    unfold goL at h ⊢
    by_cases hi : isOf (ofL a) a = true
    · rw [if_pos hi] at h ⊢
      obtain ⟨M, h1, h2, h3⟩ := goL_ok (b :: r) (by simp) _ h
      obtain ⟨hr, hl⟩ := isOf_iff.mp hi
      refine ⟨ofL a :: M, by rw [h1]; simp, by rw [List.all_cons, hr, h2]; rfl, ?_⟩
      rw [Spl.glue_cons (by simp), ← h3]
      show lineL (ofL a) ++ 10 :: rowL M = _
      rw [hl]
    · rw [if_neg hi] at h
      cases h
theorem goL_no : ∀ (ls : List (List UInt8)) (acc), (goL ls acc).2.2 ≠ 0 → (goL ls acc).1 = []
  | [], acc, h => absurd rfl h
  | [a], acc, h => by
    unfold goL at h ⊢
    by_cases h0 : a = []
    · rw [if_pos h0] at h; exact absurd rfl h
    · rw [if_neg h0]
  | a :: b :: r, acc, h => by
    unfold goL at h ⊢
    by_cases hi : isOf (ofL a) a = true
    · rw [if_pos hi] at h ⊢
      exact goL_no (b :: r) _ h
    · rw [if_neg hi]
theorem goL_row : ∀ (l : List S34), l.all right = true → ∀ acc, goL (spl 10 (rowL l)) acc = (acc ++ l, ((acc.length + l.length : Nat) : Int), 0)
  | [], _, acc => by
    show goL [[]] acc = _
    unfold goL
    rw [if_pos rfl, List.append_nil]
    simp
  | x :: r, h, acc => by
    rw [List.all_cons, Bool.and_eq_true] at h
    have ih := goL_row r h.2 (acc ++ [x])
    have hx : ofL (lineL x) = x := ofL_is (isOf_iff.mpr ⟨h.1, rfl⟩)
    have hi : isOf (ofL (lineL x)) (lineL x) = true := by rw [hx]; exact isOf_iff.mpr ⟨h.1, rfl⟩
    show goL (spl 10 (lineL x ++ 10 :: rowL r)) acc = _
    rw [Spl.spl_hit (line_free h.1)]
    obtain ⟨p, q, hp⟩ : ∃ p q, spl 10 (rowL r) = p :: q := by
      rcases hq : spl 10 (rowL r) with _ | ⟨p, q⟩
      · exact absurd hq (Spl.spl_ne 10 _)
      · exact ⟨p, q, rfl⟩
    rw [hp] at ih ⊢
    unfold goL
    rw [if_pos hi, hx, ih]
    simp
    omega
theorem row_len : ∀ l : List S34, l.length ≤ (rowL l).length
  | [] => Nat.le_refl _
  | x :: r => by
    have := row_len r
    show r.length + 1 ≤ (lineL x ++ 10 :: rowL r).length
    simp; omega
theorem row_le : ∀ l : List S34, l.all right = true → (rowL l).length ≤ 61 * l.length
  | [], _ => Nat.le_refl _
  | x :: r, h => by
    rw [List.all_cons, Bool.and_eq_true] at h
    have := row_le r h.2
    have := line_len h.1
    show (lineL x ++ 10 :: rowL r).length ≤ 61 * (r.length + 1)
    simp; omega
theorem same_l0 (l : List S34) (hl : l.length ≤ 1000000) (d : Nat) : ∀ n, n ≤ l.length → l.length - n = d → ∀ k, d + 1 ≤ k → supercargoref22_Same.l0 k l l n = some true := by
  induction d with
  | zero =>
    intro n hn hd k hk
    obtain ⟨k, rfl⟩ : ∃ m, k = m + 1 := ⟨k - 1, by omega⟩
    simp only [supercargoref22_Same.l0]
    rw [if_neg (by omega)]
  | succ d ih =>
    intro n hn hd k hk
    obtain ⟨k, rfl⟩ : ∃ m, k = m + 1 := ⟨k - 1, by omega⟩
    simp only [supercargoref22_Same.l0]
    rw [if_pos (by omega), if_pos (by omega), if_pos (by omega), if_neg (by simp), wrap_next (by omega)]
    exact ih (n + 1) (by omega) (by omega) k (by omega)
theorem same_eq (l : List S34) (hl : l.length ≤ 1000000) (k : Nat) (hk : l.length + 1 ≤ k) : supercargoref22_Same.f k l l = some true := by
  unfold supercargoref22_Same.f
  rw [if_pos rfl]
  exact same_l0 l hl l.length 0 (by omega) (by omega) k (by omega)
end Go.Proofs.YtjmbglgchmhahaaDoor.Pure
