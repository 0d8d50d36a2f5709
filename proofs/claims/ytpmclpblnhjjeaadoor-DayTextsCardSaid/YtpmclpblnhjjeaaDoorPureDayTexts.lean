/- The plain law of DayTexts. -/
import Derived.Test.YtpmclpblnhjjeaaDoorPureText
namespace Go.Proofs.YtpmclpblnhjjeaaDoor.Pure
open Go.RowKit Go.Proofs.YtpmclpblnhjjeaaDoor.P Go.Proofs.YtpmclpblnhjjeaaDoorW.PrintWords Go.Proofs.YtpmclpblnhjjeaaDoorW.PrintLast
theorem DayTexts (x : Int) (_ : (Lit.int .i64 x).wf = true) : ∃ k, supercargolaw02_DayTexts.f k x = some true := by
  refine ⟨2000000, ?_⟩
  unfold supercargolaw02_DayTexts.f
  rw [awake_eq (by omega), Option.bind_some, if_pos rfl]
  cases hd : isDay x
  · have : day_Text.f 2000000 x = some (strD []) := by
      unfold day_Text.f
      rw [is_eq, hd]; rfl
    rw [this, Option.bind_some, refIs_eq, hd, Option.bind_some, if_neg (by simp), ByteArray.toList_eq, strD_list]
    rfl
  · obtain ⟨n, rfl, hn⟩ : ∃ n : Nat, x = (n : Int) ∧ n ≤ 1048576 := by
      unfold isDay at hd
      rw [Bool.and_eq_true, decide_eq_true_eq, decide_eq_true_eq] at hd
      exact ⟨x.toNat, by omega, by omega⟩
    obtain ⟨y, m, r, h1, h2, h3, h4⟩ := Month_eq hn
    have hf := first_low y
    have hy : y < 3000 := by omega
    have hml := mlen_low (lp y) m h1
    have hM := h4 2000000 (by omega)
    have hl : (strD (txt y m r)).data.toList.length = 10 := rfl
    have hP := Parse_in (s := strD (txt y m r)) hl (txt_form y m r) (y := 2000 + y) (m := m + 1) (d := r + 1)
      (atoi_dec (b := dg ((2000 + y) / 1000)) (dec_d4 (show 2000 + y < 10000 by omega))) (atoi_dec (b := dg ((m + 1) / 10)) (dec_d2 (show m + 1 < 100 by omega))) (atoi_dec (b := dg ((r + 1) / 10)) (dec_d2 (show r + 1 < 100 by omega))) (by omega) (k := 2000000) (by omega)
    rw [show ((m + 1 : Nat) : Int) - 1 = (m : Int) by omega, of_eq (by omega) h1 h2 (by omega), Option.bind_some] at hP
    have hd2 : isDay ((first y + cum (lp y) m + r : Nat) : Int) = true := by rw [← h3]; exact hd
    simp only [hd2, ↓reduceIte] at hP
    rw [← h3] at hP
    rw [Text_eq hn hy h1 (by omega) (by omega) hM.1, Option.bind_some, refIs_eq, hd, Option.bind_some, if_pos rfl, hP, Option.bind_some, refText_eq hy h1 (by omega) (by omega) hM.2, Option.bind_some, if_pos rfl]
    simp only [↓reduceIte]
    rw [show (2000000 : Nat) = 1999999 + 1 from rfl]
    simp only [supercargolaw02_DayTexts.j0]
    rfl
end Go.Proofs.YtpmclpblnhjjeaaDoor.Pure
