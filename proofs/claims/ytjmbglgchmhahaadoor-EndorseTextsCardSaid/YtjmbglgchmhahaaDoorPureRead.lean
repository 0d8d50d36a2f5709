/- One line, read by the program: the endorsement of it, if it is one. -/
import Derived.Test.YtjmbglgchmhahaaDoorPureSplit
import Derived.Test.YtjmbglgchmhahaaDoorPx14
namespace Go.Proofs.YtjmbglgchmhahaaDoor.Pure
open Go.RowKit Go.Proofs.YtjmbglgchmhahaaDoor.P Go.Proofs.YtjmbglgchmhahaaDoorW.PrintWords Go.Proofs.YtjmbglgchmhahaaDoorW.PrintLast Go.Proofs.YtjmbglgchmhahaaDoorW.PrintMore
open Lib (decDigits)
open Spl (spl)
/-- Is a line the one of an endorsement? -/
def isOf (x : S34) (s : List UInt8) : Bool := right x && (lineL x == s)
theorem isOf_iff {x : S34} {s : List UInt8} : isOf x s = true ↔ right x = true ∧ lineL x = s := by
  unfold isOf; rw [Bool.and_eq_true, beq_iff_eq]
theorem ok_ne {c : UInt8} (h : MarkName.okI (c.toNat : Int) = true) : c ≠ 32 ∧ c ≠ 10 := by
  constructor
  · rintro rfl; revert h; decide
  · rintro rfl; revert h; decide
theorem dig_ne {l : List UInt8} (h : l.all Dec.isDig = true) : (32 : UInt8) ∉ l ∧ (10 : UInt8) ∉ l := by
  rw [List.all_eq_true] at h
  constructor
  · intro hm; have := h _ hm; revert this; decide
  · intro hm; have := h _ hm; revert this; decide
theorem nm_free {s : ByteArray} (h : nm s = true) : (32 : UInt8) ∉ s.data.toList ∧ (10 : UInt8) ∉ s.data.toList := by
  have := (nm_len h).2.2
  exact ⟨fun hm => (ok_ne (this _ hm)).1 rfl, fun hm => (ok_ne (this _ hm)).2 rfl⟩
theorem word_free (k : Int) : (32 : UInt8) ∉ wordL k ∧ (10 : UInt8) ∉ wordL k := by
  unfold wordL
  split
  · decide
  · split <;> decide
theorem line_spl {x : S34} (h : right x = true) : spl 32 (lineL x) = if x.f2 = 1 then [wordL x.f2, x.f0.data.toList, dayL x] else [wordL x.f2, x.f0.data.toList, x.f1.data.toList, dayL x] := by
  obtain ⟨hk, h0, h1, n0, _, n1⟩ := right_kind h
  have w := (word_free x.f2).1
  have a := (nm_free n0).1
  have d := (dig_ne (Dec.dec_all x.f3.toNat)).1
  unfold lineL dayL
  by_cases k1 : x.f2 = 1
  · rw [if_pos k1, if_pos k1, Spl.spl_hit w, Spl.spl_hit a, Spl.spl_none d]
  · have b := (nm_free (n1 k1).1).1
    rw [if_neg k1, if_neg k1, Spl.spl_hit w, Spl.spl_hit a, Spl.spl_hit b, Spl.spl_none d]
theorem line_free {x : S34} (h : right x = true) : (10 : UInt8) ∉ lineL x := by
  obtain ⟨hk, h0, h1, n0, _, n1⟩ := right_kind h
  have w := (word_free x.f2).2
  have a := (nm_free n0).2
  have d := (dig_ne (Dec.dec_all x.f3.toNat)).2
  unfold lineL dayL
  have e : (10 : UInt8) ≠ 32 := by decide
  by_cases k1 : x.f2 = 1
  · rw [if_pos k1]
    simp only [List.mem_append, List.mem_cons, not_or]
    exact ⟨w, e, a, e, d⟩
  · have b := (nm_free (n1 k1).1).2
    rw [if_neg k1]
    simp only [List.mem_append, List.mem_cons, not_or]
    exact ⟨w, e, a, e, b, e, d⟩
theorem em_of {s : ByteArray} (h : s.toList = []) : s = em := by
  rw [ByteArray.toList_eq] at h
  rw [← strD_self s, h]; rfl
abbrev rdB (ps : List ByteArray) (i : Int) : ByteArray := rdOf ByteArray.empty ps i
/-- What is read of the pieces of a line. -/
def readX (ps : List ByteArray) (v : Int) : S34 :=
  if ps.length = 4 ∧ (rdB ps 0).toList = [111, 114, 100, 101, 114] then ⟨rdB ps 1, rdB ps 2, 0, v⟩
  else if ps.length = 3 ∧ (rdB ps 0).toList = [98, 108, 97, 110, 107] then ⟨rdB ps 1, em, 1, v⟩
  else if ps.length = 4 ∧ (rdB ps 0).toList = [111, 110, 108, 121] then ⟨rdB ps 1, rdB ps 2, 2, v⟩
  else ⟨em, em, -1, v⟩
theorem fin_eq (x : S34) (s : List UInt8) {k : Nat} (hk : 3 ≤ k) :
    ((endorse_right.f k x.f0 x.f1 x.f2 x.f3).bind fun t => if t = true then ((endorse_line.f x.f0 x.f1 x.f2 x.f3).bind fun u => some (x.f0, x.f1, x.f2, x.f3, (u.toList == (strD s).toList))) else some (x.f0, x.f1, x.f2, x.f3, false)) = some (x.f0, x.f1, x.f2, x.f3, isOf x s) := by
  obtain ⟨k, rfl⟩ : ∃ j, k = j + 3 := ⟨k - 3, by omega⟩
  rw [right_eq, Option.bind_some, show rightB x.f0 x.f1 x.f2 x.f3 = right x from rfl]
  unfold isOf
  by_cases h : right x = true
  · rw [if_pos h, line_eq h, Option.bind_some, h, Bool.true_and, strD_toList, strD_toList]
  · rw [if_neg h, Bool.eq_false_iff.mpr h, Bool.false_and]
theorem read_j2 (s : List UInt8) (ps : List ByteArray) (v : Int) {k : Nat} (hk : 10 ≤ k) :
    endorse_read.j2 k (strD s) ps (if ps.length = 4 then (rdB ps 0).toList == [111, 110, 108, 121] else false) em em (-1) v =
      (let x : S34 := if ps.length = 4 ∧ (rdB ps 0).toList = [111, 110, 108, 121] then ⟨rdB ps 1, rdB ps 2, 2, v⟩ else ⟨em, em, -1, v⟩; some (x.f0, x.f1, x.f2, x.f3, isOf x s)) := by
  obtain ⟨k, rfl⟩ : ∃ j, k = j + 1 := ⟨k - 1, by omega⟩
  simp only [endorse_read.j2]
  by_cases h4 : ps.length = 4
  · by_cases h : (rdB ps 0).toList = [111, 110, 108, 121]
    · rw [if_pos h4, if_pos (by simpa using h), if_pos (by omega), if_pos (by omega), if_pos ⟨h4, h⟩]
      exact fin_eq ⟨rdB ps 1, rdB ps 2, 2, v⟩ s (by omega)
    · rw [if_pos h4, if_neg (by simpa using h), if_neg (fun x => h x.2)]
      exact fin_eq ⟨em, em, -1, v⟩ s (by omega)
  · rw [if_neg h4, if_neg Bool.false_ne_true, if_neg (fun x => h4 x.1)]
    exact fin_eq ⟨em, em, -1, v⟩ s (by omega)
theorem read_eq {s : List UInt8} (hs : s.length ≤ 4000000) {k : Nat} (hk : 20 ≤ k) :
    ∃ v, v = atoiV (rdB (pcs 32 s) (((pcs 32 s).length : Int) - 1)).data.toList ∧ endorse_read.f k (strD s) = some ((readX (pcs 32 s) v).f0, (readX (pcs 32 s) v).f1, (readX (pcs 32 s) v).f2, (readX (pcs 32 s) v).f3, isOf (readX (pcs 32 s) v) s) := by
  refine ⟨_, rfl, ?_⟩
  have hlen : (pcs 32 s).length ≤ s.length + 1 := by unfold pcs; rw [List.length_map]; exact Spl.spl_length_le 32 _ s (Nat.le_refl _)
  have hpos : 0 < (pcs 32 s).length := by unfold pcs; rw [List.length_map]; exact List.length_pos_iff.mpr (Spl.spl_ne 32 s)
  have hsz : ∀ i : Int, (rdB (pcs 32 s) i).size ≤ 4000000 := by
    intro i
    unfold rdB rdOf
    rw [List.getD_eq_getElem?_getD]
    rcases hg : (pcs 32 s)[i.toNat]? with _ | p
    · decide
    · obtain ⟨hlt, he⟩ := List.getElem?_eq_some_iff.mp hg
      have hm : p ∈ pcs 32 s := by rw [← he]; exact List.getElem_mem hlt
      unfold pcs at hm
      obtain ⟨q, hq, rfl⟩ := List.mem_map.mp hm
      have := (Spl.spl_piece 32 _ s (Nat.le_refl _) q hq).1
      show (strD q).size ≤ 4000000
      rw [strD_size]; omega
  unfold endorse_read.f
  rw [split_eq hs, Option.bind_some]
  generalize pcs 32 s = ps at hlen hpos hsz
  rw [wrap_in (x := (ps.length : Int) - 1) (by omega) (by omega), if_pos (by omega), if_pos (by omega)]
  have ha : strconv_Atoi.f (rdOf ByteArray.empty ps ((ps.length : Int) - 1)) = some (atoiV (rdB ps ((ps.length : Int) - 1)).data.toList, false) := by
    unfold strconv_Atoi.f
    rw [if_pos (by have := hsz ((ps.length : Int) - 1); unfold rdB at this; omega)]
  rw [ha, Option.bind_some]
  simp only []
  generalize atoiV (rdB ps ((ps.length : Int) - 1)).data.toList = v
  obtain ⟨k, rfl⟩ : ∃ j, k = j + 1 := ⟨k - 1, by omega⟩
  obtain ⟨k, rfl⟩ : ∃ j, k = j + 1 := ⟨k - 1, by omega⟩
  have J2 := read_j2 s ps v (k := k) (by omega)
  have J1 : endorse_read.j1 (k + 1) (strD s) ps (if ps.length = 3 then (rdB ps 0).toList == [98, 108, 97, 110, 107] else false) em em (-1) v =
      (let x : S34 := if ps.length = 3 ∧ (rdB ps 0).toList = [98, 108, 97, 110, 107] then ⟨rdB ps 1, em, 1, v⟩ else if ps.length = 4 ∧ (rdB ps 0).toList = [111, 110, 108, 121] then ⟨rdB ps 1, rdB ps 2, 2, v⟩ else ⟨em, em, -1, v⟩; some (x.f0, x.f1, x.f2, x.f3, isOf x s)) := by
    simp only [endorse_read.j1]
    have rest : (if (ps.length : Int) = 4 then (if 0 < (ps.length : Int) then (endorse_read.j2 k (strD s) ps ((rdOf ByteArray.empty ps 0).toList == ([111, 110, 108, 121] : List UInt8)) em em (-1) v) else (none)) else (endorse_read.j2 k (strD s) ps false em em (-1) v)) = endorse_read.j2 k (strD s) ps (if ps.length = 4 then (rdB ps 0).toList == [111, 110, 108, 121] else false) em em (-1) v := by
      by_cases h4 : ps.length = 4
      · rw [if_pos (by omega), if_pos (by omega), if_pos h4]
      · rw [if_neg (by omega), if_neg h4]
    by_cases h3 : ps.length = 3
    · by_cases h : (rdB ps 0).toList = [98, 108, 97, 110, 107]
      · rw [if_pos h3, if_pos (by simpa using h), if_pos (by omega), if_pos ⟨h3, h⟩]
        exact fin_eq ⟨rdB ps 1, em, 1, v⟩ s (by omega)
      · have q : ¬ (ps.length = 3 ∧ (rdB ps 0).toList = [98, 108, 97, 110, 107]) := fun x => h x.2
        rw [if_pos h3, if_neg (by simpa using h), rest, if_neg q]
        exact J2
    · have q : ¬ (ps.length = 3 ∧ (rdB ps 0).toList = [98, 108, 97, 110, 107]) := fun x => h3 x.1
      rw [if_neg h3, if_neg Bool.false_ne_true, rest, if_neg q]
      exact J2
  have rest : (if (ps.length : Int) = 3 then (if 0 < (ps.length : Int) then (endorse_read.j1 (k + 1) (strD s) ps ((rdOf ByteArray.empty ps 0).toList == ([98, 108, 97, 110, 107] : List UInt8)) em em (-1) v) else (none)) else (endorse_read.j1 (k + 1) (strD s) ps false em em (-1) v)) = endorse_read.j1 (k + 1) (strD s) ps (if ps.length = 3 then (rdB ps 0).toList == [98, 108, 97, 110, 107] else false) em em (-1) v := by
    by_cases h3 : ps.length = 3
    · rw [if_pos (by omega), if_pos (by omega), if_pos h3]
    · rw [if_neg (by omega), if_neg h3]
  unfold readX
  by_cases h4 : ps.length = 4
  · rw [if_pos (by omega), if_pos (by omega)]
    simp only [endorse_read.j0]
    by_cases h : (rdB ps 0).toList = [111, 114, 100, 101, 114]
    · rw [if_pos (by simpa using h), if_pos (by omega), if_pos (by omega), if_pos ⟨h4, h⟩]
      exact fin_eq ⟨rdB ps 1, rdB ps 2, 0, v⟩ s (by omega)
    · have q : ¬ (ps.length = 4 ∧ (rdB ps 0).toList = [111, 114, 100, 101, 114]) := fun x => h x.2
      rw [if_neg (by simpa using h), if_neg q]
      exact rest.trans J1
  · have q : ¬ (ps.length = 4 ∧ (rdB ps 0).toList = [111, 114, 100, 101, 114]) := fun x => h4 x.1
    rw [if_neg (show ¬ (ps.length : Int) = 4 by omega)]
    simp only [endorse_read.j0]
    rw [if_neg Bool.false_ne_true, if_neg q]
    exact rest.trans J1
/-- Of a line of a right one just that is read. -/
theorem readX_of {y : S34} (h : right y = true) : readX (pcs 32 (lineL y)) (atoiV (rdB (pcs 32 (lineL y)) (((pcs 32 (lineL y)).length : Int) - 1)).data.toList) = y := by
  obtain ⟨hk, h0, h1, n0, e1, n1⟩ := right_kind h
  have hd : atoiV (dayL y) = y.f3 := by unfold dayL; rw [atoi_day (by omega), Int.toNat_of_nonneg h0]
  have s0 := strD_self y.f0
  have s1 := strD_self y.f1
  unfold pcs
  rw [line_spl h]
  by_cases k1 : y.f2 = 1
  · rw [if_pos k1]
    have hw : wordL y.f2 = [98, 108, 97, 110, 107] := by unfold wordL; rw [if_neg (by omega), if_pos k1]
    simp only [List.map_cons, List.map_nil, List.length_cons, List.length_nil]
    unfold readX
    rw [if_neg (by simp), if_pos ⟨rfl, by show (strD (wordL y.f2)).toList = _; rw [strD_toList, hw]⟩]
    have e : y.f1 = em := em_of (e1 k1)
    show (⟨strD y.f0.data.toList, em, 1, atoiV (strD (dayL y)).data.toList⟩ : S34) = y
    rw [strD_list, hd, s0]
    cases y
    simp_all
  · rw [if_neg k1]
    simp only [List.map_cons, List.map_nil, List.length_cons, List.length_nil]
    unfold readX
    by_cases k0 : y.f2 = 0
    · have hw : wordL y.f2 = [111, 114, 100, 101, 114] := by unfold wordL; rw [if_pos k0]
      rw [if_pos ⟨rfl, by show (strD (wordL y.f2)).toList = _; rw [strD_toList, hw]⟩]
      show (⟨strD y.f0.data.toList, strD y.f1.data.toList, 0, atoiV (strD (dayL y)).data.toList⟩ : S34) = y
      rw [strD_list, hd, s0, s1, ← k0]
    · have k2 : y.f2 = 2 := by omega
      have hw : wordL y.f2 = [111, 110, 108, 121] := by unfold wordL; rw [if_neg k0, if_neg k1]
      have hr : (rdB [strD (wordL y.f2), strD y.f0.data.toList, strD y.f1.data.toList, strD (dayL y)] 0).toList = [111, 110, 108, 121] := by
        show (strD (wordL y.f2)).toList = _
        rw [strD_toList, hw]
      rw [if_neg (by rw [hr]; simp), if_neg (by simp), if_pos ⟨rfl, hr⟩]
      show (⟨strD y.f0.data.toList, strD y.f1.data.toList, 2, atoiV (strD (dayL y)).data.toList⟩ : S34) = y
      rw [strD_list, hd, s0, s1, ← k2]
end Go.Proofs.YtjmbglgchmhahaaDoor.Pure
