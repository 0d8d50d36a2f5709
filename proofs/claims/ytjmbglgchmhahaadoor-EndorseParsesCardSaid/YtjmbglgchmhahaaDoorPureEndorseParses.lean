/- The law EndorseParses in plain Lean. -/
import Derived.Test.YtjmbglgchmhahaaDoorPureRow
import Derived.Test.YtjmbglgchmhahaaDoorPx16
import Derived.Test.YtjmbglgchmhahaaDoorPx17
namespace Go.Proofs.YtjmbglgchmhahaaDoor.Pure
open Go.RowKit Go.Proofs.YtjmbglgchmhahaaDoor.P Go.Proofs.YtjmbglgchmhahaaDoorW.PrintWords Go.Proofs.YtjmbglgchmhahaaDoorW.PrintLast Go.Proofs.YtjmbglgchmhahaaDoorW.PrintMore
open Lib (decDigits)
open Spl (spl)
/-- What the document reads of the pieces of a line. -/
def oneX (ps : List ByteArray) : S34 :=
  if ps.length = 4 then (if (rdB ps 0).toList = [111, 110, 108, 121] then ⟨rdB ps 1, rdB ps 2, 2, numL (rdB ps 3).data.toList⟩ else ⟨rdB ps 1, rdB ps 2, 0, numL (rdB ps 3).data.toList⟩)
  else if ps.length = 3 then ⟨rdB ps 1, em, 1, numL (rdB ps 2).data.toList⟩ else ⟨em, em, 0, 0⟩
theorem finR_eq (x : S34) (hx : Small x) (s : List UInt8) (hs : s.length ≤ 4000) {k : Nat} (hk : 1048700 ≤ k) :
    ((supercargoref22_Right.f k x.f0 x.f1 x.f2 x.f3).bind fun t => if t = true then ((supercargoref22_Line.f k x.f0 x.f1 x.f2 x.f3).bind fun u => if (strD s).size + 1 ≤ 9223372036854775807 then some (x.f0, x.f1, x.f2, x.f3, (u.toList == ((strD s) ++ (⟨#[10]⟩ : ByteArray)).toList)) else none) else some (x.f0, x.f1, x.f2, x.f3, false)) = some (x.f0, x.f1, x.f2, x.f3, isOf x s) := by
  rw [refRight_eq x hx k (by omega), Option.bind_some]
  unfold isOf
  by_cases h : right x = true
  · have e : (lineL x ++ [10] == s ++ [10]) = (lineL x == s) := by
      rw [Bool.eq_iff_iff, beq_iff_eq, beq_iff_eq]
      exact ⟨fun h => List.append_cancel_right h, fun h => by rw [h]⟩
    rw [if_pos h, refLine_eq h (by omega), Option.bind_some, h, Bool.true_and, if_pos (by rw [strD_size]; omega), strD_toList, show (⟨#[10]⟩ : ByteArray) = strD [10] from rfl, strD_app, strD_toList, e]
  · rw [if_neg h, Bool.eq_false_iff.mpr h, Bool.false_and]
theorem one_j1 (x : S34) (hx : Small x) (s : List UInt8) (hs : s.length ≤ 4000) {k : Nat} (hk : 1048710 ≤ k) : supercargoref22_One.j1 k (strD s) x.f0 x.f1 x.f2 x.f3 = some (x.f0, x.f1, x.f2, x.f3, isOf x s) := by
  obtain ⟨k, rfl⟩ : ∃ j, k = j + 1 := ⟨k - 1, by omega⟩
  simp only [supercargoref22_One.j1]
  exact finR_eq x hx s hs (k := k) (by omega)
theorem one_eq {s : List UInt8} (hs : s.length ≤ 4000) {k : Nat} (hk : 1048800 ≤ k) :
    supercargoref22_One.f k (strD s) = some ((oneX (pcs 32 s)).f0, (oneX (pcs 32 s)).f1, (oneX (pcs 32 s)).f2, (oneX (pcs 32 s)).f3, isOf (oneX (pcs 32 s)) s) := by
  have hsz : ∀ i : Int, (rdB (pcs 32 s) i).data.toList.length ≤ 4000 := by
    intro i
    unfold rdB rdOf
    rw [List.getD_eq_getElem?_getD]
    rcases hg : (pcs 32 s)[i.toNat]? with _ | p
    · simp
    · obtain ⟨hlt, he⟩ := List.getElem?_eq_some_iff.mp hg
      have hm : p ∈ pcs 32 s := by rw [← he]; exact List.getElem_mem hlt
      unfold pcs at hm
      obtain ⟨q, hq, rfl⟩ := List.mem_map.mp hm
      have := (Spl.spl_piece 32 _ s (Nat.le_refl _) q hq).1
      show (strD q).data.toList.length ≤ 4000
      rw [strD_list]; omega
  have hnum : ∀ (i : Int) (k : Nat), 20 ≤ k → supercargoref22_Number.f k (rdB (pcs 32 s) i) = some (numL (rdB (pcs 32 s) i).data.toList) := by
    intro i k hk
    have := number_eq (rdB (pcs 32 s) i).data.toList (by have := hsz i; omega) hk
    rw [strD_self] at this
    exact this
  have hsm : ∀ (i j : Int) (c d : Int), Small ⟨rdB (pcs 32 s) i, rdB (pcs 32 s) j, c, d⟩ := by
    intro i j c d
    have a := hsz i
    have b := hsz j
    exact ⟨by rw [size_list]; exact a, by rw [size_list]; exact b⟩
  have hsm1 : ∀ (i : Int) (c d : Int), Small ⟨rdB (pcs 32 s) i, em, c, d⟩ := by
    intro i c d
    have a := hsz i
    exact ⟨by rw [size_list]; exact a, by show (0 : Nat) ≤ 4000; omega⟩
  unfold supercargoref22_One.f
  rw [show (32 : Int) = (((32 : UInt8).toNat : Nat) : Int) from rfl, parts_eq 32 s (by omega) (by omega), Option.bind_some]
  generalize pcs 32 s = ps at hsz hnum hsm hsm1
  obtain ⟨k, rfl⟩ : ∃ j, k = j + 1 := ⟨k - 1, by omega⟩
  unfold oneX
  by_cases h3 : ps.length = 3
  · have hn := hnum 2 (k + 1) (by omega)
    unfold rdB at hn
    rw [if_pos (by omega), if_pos (by omega), if_pos (by omega), hn, Option.bind_some]
    simp only [supercargoref22_One.j0]
    rw [if_neg (by omega), if_neg (by omega), if_pos h3]
    exact one_j1 ⟨rdB ps 1, em, 1, numL (rdB ps 2).data.toList⟩ (hsm1 1 _ _) s hs (by omega)
  · rw [if_neg (by omega)]
    simp only [supercargoref22_One.j0]
    by_cases h4 : ps.length = 4
    · have hn := hnum 3 k (by omega)
      unfold rdB at hn
      rw [if_pos (by omega), if_pos (by omega), if_pos (by omega), if_pos (by omega), hn, Option.bind_some, if_pos (by omega), if_pos h4]
      by_cases h : (rdB ps 0).toList = [111, 110, 108, 121]
      · rw [if_pos h, if_pos h]
        exact one_j1 ⟨rdB ps 1, rdB ps 2, 2, numL (rdB ps 3).data.toList⟩ (hsm 1 2 _ _) s hs (by omega)
      · rw [if_neg h, if_neg h]
        exact one_j1 ⟨rdB ps 1, rdB ps 2, 0, numL (rdB ps 3).data.toList⟩ (hsm 1 2 _ _) s hs (by omega)
    · rw [if_neg (by omega), if_neg h4, if_neg h3]
      exact one_j1 ⟨em, em, 0, 0⟩ ⟨by show (0 : Nat) ≤ 4000; omega, by show (0 : Nat) ≤ 4000; omega⟩ s hs (by omega)
theorem oneX_of {y : S34} (h : right y = true) : oneX (pcs 32 (lineL y)) = y := by
  obtain ⟨hk, h0, h1, n0, e1, n1⟩ := right_kind h
  have hd : numL (dayL y) = y.f3 := by unfold dayL; rw [num_day (by omega), Int.toNat_of_nonneg h0]
  have s0 := strD_self y.f0
  have s1 := strD_self y.f1
  unfold pcs
  rw [line_spl h]
  by_cases k1 : y.f2 = 1
  · rw [if_pos k1]
    simp only [List.map_cons, List.map_nil]
    unfold oneX
    rw [if_neg (by simp), if_pos (by simp)]
    have e : y.f1 = em := em_of (e1 k1)
    show (⟨strD y.f0.data.toList, em, 1, numL (strD (dayL y)).data.toList⟩ : S34) = y
    rw [strD_list, hd, s0, ← e, ← k1]
  · rw [if_neg k1]
    simp only [List.map_cons, List.map_nil]
    unfold oneX
    rw [if_pos (by simp)]
    by_cases k0 : y.f2 = 0
    · have hw : wordL y.f2 = [111, 114, 100, 101, 114] := by unfold wordL; rw [if_pos k0]
      have hr : (rdB [strD (wordL y.f2), strD y.f0.data.toList, strD y.f1.data.toList, strD (dayL y)] 0).toList = [111, 114, 100, 101, 114] := by
        show (strD (wordL y.f2)).toList = _
        rw [strD_toList, hw]
      rw [if_neg (by rw [hr]; simp)]
      show (⟨strD y.f0.data.toList, strD y.f1.data.toList, 0, numL (strD (dayL y)).data.toList⟩ : S34) = y
      rw [strD_list, hd, s0, s1, ← k0]
    · have k2 : y.f2 = 2 := by omega
      have hw : wordL y.f2 = [111, 110, 108, 121] := by unfold wordL; rw [if_neg k0, if_neg k1]
      have hr : (rdB [strD (wordL y.f2), strD y.f0.data.toList, strD y.f1.data.toList, strD (dayL y)] 0).toList = [111, 110, 108, 121] := by
        show (strD (wordL y.f2)).toList = _
        rw [strD_toList, hw]
      rw [if_pos hr]
      show (⟨strD y.f0.data.toList, strD y.f1.data.toList, 2, numL (strD (dayL y)).data.toList⟩ : S34) = y
      rw [strD_list, hd, s0, s1, ← k2]
end Go.Proofs.YtjmbglgchmhahaaDoor.Pure
namespace Go.Proofs.YtjmbglgchmhahaaDoor.Pure
set_option linter.unusedVariables false
open Go.RowKit Go.Proofs.YtjmbglgchmhahaaDoor.P Go.Proofs.YtjmbglgchmhahaaDoorW.PrintWords Go.Proofs.YtjmbglgchmhahaaDoorW.PrintLast Go.Proofs.YtjmbglgchmhahaaDoorW.PrintMore
open Lib (decDigits)
open Spl (spl glue)
theorem oneX_is {s : List UInt8} {y : S34} (h : isOf y s = true) : oneX (pcs 32 s) = y := by
  obtain ⟨hr, rfl⟩ := isOf_iff.mp h
  exact oneX_of hr
theorem one_of {s : List UInt8} (hs : s.length ≤ 4000) {k : Nat} (hk : 1048800 ≤ k) : ∃ x : S34, supercargoref22_One.f k (strD s) = some (x.f0, x.f1, x.f2, x.f3, isOf x s) ∧ isOf x s = isOf (ofL s) s ∧ (isOf x s = true → x = ofL s) := by
  refine ⟨_, one_eq hs hk, ?_, ?_⟩
  · rw [Bool.eq_iff_iff]
    constructor
    · intro h1
      rw [ofL_is h1]; exact h1
    · intro h1
      rw [oneX_is h1]; exact h1
  · intro h1
    exact (ofL_is h1).symm
theorem refParse_l0 (ls : List (List UInt8)) (hne : ls ≠ []) (hl : ls.length ≤ 5000) (hp : ∀ p ∈ ls, p.length ≤ 4000) (d : Nat) : ∀ (n : Nat) (acc : List S34) (k : Nat), n + d + 1 = ls.length → acc.length = n → 2 * d + 1048900 ≤ k →
    supercargoref22_Parse.l0 k acc (ls.map strD) (n : Int) = some (goL (ls.drop n) acc) := by
  induction d with
  | zero =>
    intro n acc k hn ha hk
    obtain ⟨k, rfl⟩ : ∃ j, k = j + 2 := ⟨k - 2, by omega⟩
    have hlt : n < ls.length := by omega
    have hd : ls.drop n = [ls[n]] := by rw [List.drop_eq_getElem_cons hlt, List.drop_of_length_le (by omega)]
    have hr : rdB (ls.map strD) (n : Int) = strD ls[n] := by
      unfold rdB rdOf
      rw [Int.toNat_natCast, List.getD_eq_getElem?_getD, List.getElem?_map, List.getElem?_eq_getElem hlt]; rfl
    unfold rdB at hr
    rw [supercargoref22_Parse.l0, List.length_map, if_pos (by omega), wrap_in (by omega) (by omega), if_pos (by omega), if_pos (by omega), hr, hd]
    simp only [supercargoref22_Parse.j1, strD_toList, List.length_map]
    unfold goL
    by_cases h0 : ls[n] = []
    · rw [if_pos (by simpa using h0), if_pos h0, ha]
    · rw [if_neg (by simpa using h0), if_neg h0, if_pos (by omega), if_pos (by omega), hr]
      obtain ⟨x, hx, h1, h2⟩ := one_of (s := ls[n]) (hp _ (List.getElem_mem hlt)) (k := k) (by omega)
      rw [hx, Option.bind_some, ha]
      simp only []
      by_cases hi : isOf x ls[n] = true
      · rw [if_pos hi, wrap_in (by omega) (by omega), if_pos (by omega)]
      · rw [if_neg hi]
  | succ d ih =>
    intro n acc k hn ha hk
    obtain ⟨k, rfl⟩ : ∃ j, k = j + 2 := ⟨k - 2, by omega⟩
    have hlt : n < ls.length := by omega
    have hlt2 : n + 1 < ls.length := by omega
    have hd : ls.drop n = ls[n] :: ls[n + 1] :: ls.drop (n + 2) := by rw [List.drop_eq_getElem_cons hlt, List.drop_eq_getElem_cons hlt2]
    have hd2 : ls.drop (n + 1) = ls[n + 1] :: ls.drop (n + 2) := by rw [List.drop_eq_getElem_cons hlt2]
    have hr : rdB (ls.map strD) (n : Int) = strD ls[n] := by
      unfold rdB rdOf
      rw [Int.toNat_natCast, List.getD_eq_getElem?_getD, List.getElem?_map, List.getElem?_eq_getElem hlt]; rfl
    unfold rdB at hr
    rw [supercargoref22_Parse.l0, List.length_map, if_pos (by omega), wrap_in (by omega) (by omega), if_neg (by omega)]
    simp only [supercargoref22_Parse.j1, List.length_map]
    rw [if_neg Bool.false_ne_true, if_pos (by omega), if_pos (by omega), hr]
    obtain ⟨x, hx, h1, h2⟩ := one_of (s := ls[n]) (hp _ (List.getElem_mem hlt)) (k := k) (by omega)
    rw [hx, Option.bind_some, hd]
    simp only []
    conv => rhs; unfold goL
    by_cases hi : isOf x ls[n] = true
    · rw [if_pos hi, wrap_in (by omega) (by omega), if_neg (by omega), if_pos (by omega), wrap_next (by omega)]
      have I := ih (n + 1) (acc ++ [ofL ls[n]]) k (by omega) (by simp; omega) (by omega)
      rw [hd2] at I
      have e2 := h2 hi
      rw [show (⟨x.f0, x.f1, x.f2, x.f3⟩ : S34) = ofL ls[n] by rw [← e2], if_pos (by rw [← h1]; exact hi)]
      exact I
    · rw [if_neg hi, if_neg (by rw [← h1]; exact hi), ha]
theorem refParse_eq {s : List UInt8} (hs : s.length ≤ 4000) {k : Nat} (hk : 1060000 ≤ k) : supercargoref22_Parse.f k (strD s) = some (goL (spl 10 s) []) := by
  unfold supercargoref22_Parse.f
  rw [show (10 : Int) = (((10 : UInt8).toNat : Nat) : Int) from rfl, parts_eq 10 s (by omega) (by omega), Option.bind_some]
  have hne := Spl.spl_ne 10 s
  have hlen := Spl.spl_length_le 10 _ s (Nat.le_refl _)
  have hpos : 0 < (spl 10 s).length := List.length_pos_iff.mpr hne
  have := refParse_l0 (spl 10 s) hne (by omega) (fun p hp => by have := (Spl.spl_piece 10 _ s (Nat.le_refl _) p hp).1; omega) ((spl 10 s).length - 1) 0 [] k (by omega) rfl (by omega)
  rw [List.drop_zero] at this
  exact this
end Go.Proofs.YtjmbglgchmhahaaDoor.Pure
namespace Go.Proofs.YtjmbglgchmhahaaDoor.Pure
set_option linter.unusedVariables false
open Go.RowKit Go.Proofs.YtjmbglgchmhahaaDoor.P Go.Proofs.YtjmbglgchmhahaaDoorW.PrintWords Go.Proofs.YtjmbglgchmhahaaDoorW.PrintLast Go.Proofs.YtjmbglgchmhahaaDoorW.PrintMore
open Spl (spl glue)
theorem EndorseParses (a0 : ByteArray) (_ : a0.size ≤ 140737488351232) : ∃ k, supercargolaw22_EndorseParses.f k a0 = some true := by
  refine ⟨2000000, ?_⟩
  generalize hk : (2000000 : Nat) = k
  have hk1 : 2000000 ≤ k := by omega
  clear hk
  unfold supercargolaw22_EndorseParses.f
  rw [awake_eq k (by omega), Option.bind_some, if_pos rfl]
  by_cases hbig : (a0.size : Int) > 3000
  · rw [if_pos hbig]
  · rw [if_neg hbig]
    obtain ⟨s, hs⟩ : ∃ s, a0.data.toList = s := ⟨_, rfl⟩
    have hlen : s.length ≤ 3000 := by rw [← hs, ← size_list]; omega
    have e0 : a0 = strD s := by rw [← hs]; exact (strD_self a0).symm
    rw [e0, parse_eq (by omega) (by omega), Option.bind_some, refParse_eq (by omega) (by omega), Option.bind_some]
    by_cases he : (goL (spl 10 s) []).2.2 = 0
    · obtain ⟨M, h1, h2, h3⟩ := goL_ok (spl 10 s) (Spl.spl_ne 10 s) [] he
      rw [List.nil_append] at h1
      rw [glue_spl 10 _ s (Nat.le_refl _)] at h3
      have hM : M.length ≤ 3000 := by have := row_len M; rw [h3] at this; omega
      have ht : textL M = s := by unfold textL; rw [if_pos h2, h3]
      rw [h1, same_eq M (by omega) k (by omega), Option.bind_some, if_pos rfl, if_pos rfl, if_pos rfl, if_pos he, text_eq M (by omega) (by omega), Option.bind_some, ht]
      simp
    · have h1 := goL_no (spl 10 s) [] he
      rw [h1, same_eq [] (by simp) k (by simp; omega), Option.bind_some, if_pos rfl, if_pos rfl, if_pos rfl, if_neg he]
end Go.Proofs.YtjmbglgchmhahaaDoor.Pure
