/- A day's text, and what is parsed from it, in plain Lean. -/
import Derived.Test.YtpmclpblnhjjeaaDoorPureYear
import Derived.Test.YtpmclpblnhjjeaaDoorPureDigit
import Derived.Test.YtpmclpblnhjjeaaDoorPureForm
namespace Go.Proofs.YtpmclpblnhjjeaaDoor.Pure
open Go.RowKit Go.Proofs.YtpmclpblnhjjeaaDoor.P Go.Proofs.YtpmclpblnhjjeaaDoorW.PrintWords Go.Proofs.YtpmclpblnhjjeaaDoorW.PrintLast
theorem strD_size (l : List UInt8) : (strD l).size = l.length := by
  show l.toArray.size = l.length
  simp
theorem strD_list (l : List UInt8) : (strD l).data.toList = l := rfl
theorem strD_app (a b : List UInt8) : strD a ++ strD b = strD (a ++ b) := by
  apply ByteArray.ext
  rw [ByteArray.data_append]
  simp [strD]
theorem strD_45 : (⟨#[45]⟩ : ByteArray) = strD [45] := rfl
def txt (y m r : Nat) : List UInt8 := d4 (2000 + y) ++ [45] ++ d2 (m + 1) ++ [45] ++ d2 (r + 1)
theorem Text_eq {n y m r : Nat} (hn : n ≤ 1048576) (hy : y < 3000) (hm : m < 12) (hr : r < 31) {k : Nat} (hk : 6 ≤ k)
    (hM : day_Month.f k (n : Int) = some (((2000 + y : Nat) : Int), ((m + 1 : Nat) : Int), ((r + 1 : Nat) : Int))) : day_Text.f k (n : Int) = some (strD (txt y m r)) := by
  have hd : isDay (n : Int) = true := by unfold isDay; simp; omega
  unfold day_Text.f
  rw [strD_45, is_eq, hd, Option.bind_some, if_pos rfl, hM, Option.bind_some]
  simp only []
  rw [four_eq hy hk, Option.bind_some, if_pos (by simp [strD_size, d4]), two_eq (show m + 1 < 100 by omega) hk, Option.bind_some, strD_app, if_pos (by simp [strD_size, d4, d2]), strD_app, if_pos (by simp [strD_size, d4, d2]), two_eq (show r + 1 < 100 by omega) hk, Option.bind_some, strD_app, if_pos (by simp [strD_size, d4, d2]), strD_app]
  rfl
theorem refText_eq {n y m r : Nat} (hy : y < 3000) (hm : m < 12) (hr : r < 31) {k : Nat} (hk : 6 ≤ k)
    (hM : supercargoref02_Month.f k (n : Int) = some (((2000 + y : Nat) : Int), ((m + 1 : Nat) : Int), ((r + 1 : Nat) : Int))) : supercargoref02_Text.f k (n : Int) = some (strD (txt y m r)) := by
  unfold supercargoref02_Text.f
  rw [strD_45, hM, Option.bind_some]
  simp only []
  rw [refFour_eq hy hk, Option.bind_some, if_pos (by simp [strD_size, d4]), refTwo_eq (show m + 1 < 100 by omega) hk, Option.bind_some, strD_app, if_pos (by simp [strD_size, d4, d2]), strD_app, if_pos (by simp [strD_size, d4, d2]), refTwo_eq (show r + 1 < 100 by omega) hk, Option.bind_some, strD_app, if_pos (by simp [strD_size, d4, d2]), strD_app]
  rfl
theorem dg_nat (n : Nat) : (dg n).toNat = 48 + n % 10 := by
  unfold dg
  rw [UInt8.toNat_ofNat']
  omega
theorem dg_dig (n : Nat) : isDig (dg n) = true := by
  unfold isDig
  rw [dg_nat, decide_eq_true (by omega), decide_eq_true (by omega)]; rfl
theorem dec_d2 {n : Nat} (h : n < 100) : Lib.decFrom 0 (d2 n) = some n := by
  unfold d2
  rw [dec2, if_pos ⟨dg_dig _, dg_dig _⟩, dg_nat, dg_nat]
  congr 1; omega
theorem dec_d4 {n : Nat} (h : n < 10000) : Lib.decFrom 0 (d4 n) = some n := by
  unfold d4
  rw [dec4, if_pos ⟨dg_dig _, dg_dig _, dg_dig _, dg_dig _⟩, dg_nat, dg_nat, dg_nat, dg_nat]
  congr 1; omega
theorem txt_form (y m r : Nat) : okFrom (txt y m r) 10 0 = true := by
  simp [okFrom, okB, txt, d4, d2, dg_dig]
/-- What the program parses of ten bytes in form. -/
theorem Parse_in {s : ByteArray} (hl : s.data.toList.length = 10) (hf : okFrom s.data.toList 10 0 = true) {y m d : Nat}
    (hy : Lib.atoi (s.data.toList.take 4) = some (y : Int)) (hm : Lib.atoi ((s.data.toList.drop 5).take 2) = some (m : Int)) (hd : Lib.atoi (s.data.toList.drop 8) = some (d : Int)) (hm2 : m < 100) {k : Nat} (hk : 11 ≤ k) :
    day_Parse.f k s = (day_of.f k (y : Int) ((m : Int) - 1) (d : Int)).bind fun bt => if bt.2 = true then some (bt.1, 0) else some (0, 3) := by
  have hs : s.size = 10 := by have : s.size = s.data.toList.length := by simp
                              omega
  unfold day_Parse.f
  rw [form_eq s hl hk, Option.bind_some, hf, if_pos rfl, if_pos hs, extract_list, extract_list, extract_list, hs]
  rw [show (s.data.toList.drop 0).take (4 - 0) = s.data.toList.take 4 from rfl, hy, Option.bind_some]
  rw [show (s.data.toList.drop 5).take (7 - 5) = (s.data.toList.drop 5).take 2 from rfl, hm, Option.bind_some]
  rw [List.take_of_length_le (by rw [List.length_drop]; omega), hd, Option.bind_some, wrap_in (by omega) (by omega)]
end Go.Proofs.YtpmclpblnhjjeaaDoor.Pure
