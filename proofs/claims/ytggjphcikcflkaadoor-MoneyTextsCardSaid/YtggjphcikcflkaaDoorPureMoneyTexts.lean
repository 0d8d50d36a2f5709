/- The law MoneyTexts in plain Lean: any money's text is the document's, and is read again as that money. -/
import Derived.Test.YtggjphcikcflkaaDoorPureRefText
namespace Go.Proofs.YtggjphcikcflkaaDoor.Pure
open Go.RowKit Go.Proofs.YtggjphcikcflkaaDoor.P Go.Proofs.YtggjphcikcflkaaDoorW.PrintWords Go.Proofs.YtggjphcikcflkaaDoorW.PrintLast Go.Proofs.YtggjphcikcflkaaDoorW.PrintMore
theorem empty_no (c : ByteArray) (n : Int) (_ : may c n = true) : strD [] ≠ strD (txt c n) := by
  intro h
  have := strD_inj h
  unfold txt at this
  simp at this
theorem MoneyTexts (a : ByteArray) (n : Int) (_ : (Lit.int .i64 n).wf = true) : ∃ k, supercargolaw01_MoneyTexts.f k a n = some true := by
  refine ⟨1099511628000, ?_⟩
  generalize hk : (1099511628000 : Nat) = k
  have hk2 : 1099511628000 ≤ k := by omega
  clear hk
  unfold supercargolaw01_MoneyTexts.f
  rw [Text_eq a n (by omega), Option.bind_some]
  have haw := awake_eq (k := k) (by omega)
  by_cases hm : may a n = true
  · have hs := may_size hm
    rw [if_pos hm, if_neg (by omega), Parse_txt hm (by omega), Option.bind_some, refMay_eq a n (by omega), Option.bind_some, if_pos hm, refText_eq a n hk2, Option.bind_some, if_pos hm, if_pos rfl]
    simp only []
    rw [if_pos trivial, if_pos (by simp), haw]; rfl
  · rw [if_neg hm]
    by_cases h60 : (a.size : Int) > 60
    · rw [if_pos h60, if_pos (by rw [ByteArray.toList_eq, strD_list]), haw]; rfl
    · rw [if_neg h60, Parse_no (s := strD []) (by rw [strD_size]; simp) empty_no (by omega), Option.bind_some, refMay_eq a n (by omega), Option.bind_some, if_neg hm, if_pos (by rw [ByteArray.toList_eq, strD_list])]
      simp only []
      rw [if_pos trivial, haw]; rfl
end Go.Proofs.YtggjphcikcflkaaDoor.Pure
