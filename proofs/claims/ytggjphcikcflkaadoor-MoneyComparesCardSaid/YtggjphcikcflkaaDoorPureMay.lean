/- Whether money may be, as the document says it, and the examples, in plain Lean. -/
import Derived.Test.YtggjphcikcflkaaDoorPureParse
import Derived.Test.YtggjphcikcflkaaDoorPx17
namespace Go.Proofs.YtggjphcikcflkaaDoor.Pure
open Go.RowKit Go.Proofs.YtggjphcikcflkaaDoor.P Go.Proofs.YtggjphcikcflkaaDoorW.PrintWords Go.Proofs.YtggjphcikcflkaaDoorW.PrintLast Go.Proofs.YtggjphcikcflkaaDoorW.PrintMore
theorem refCur_l0 (s : ByteArray) (hs : s.size = 3) (d : Nat) : ∀ i : Nat, i + d = 3 → ∀ k, d + 1 ≤ k → supercargoref01_Currency.l0 k s (i : Int) = some ((s.data.toList.drop i).all upper) := by
  have hl : s.data.toList.length = 3 := by rw [← size_list]; exact hs
  induction d with
  | zero =>
    intro i hi k hk
    obtain ⟨k, rfl⟩ : ∃ j, k = j + 1 := ⟨k - 1, by omega⟩
    simp only [supercargoref01_Currency.l0]
    rw [if_neg (by omega), List.drop_of_length_le (by omega)]; rfl
  | succ d ih =>
    intro i hi k hk
    obtain ⟨k, rfl⟩ : ∃ j, k = j + 1 := ⟨k - 1, by omega⟩
    have hlt : i < s.data.toList.length := by omega
    simp only [supercargoref01_Currency.l0]
    rw [if_pos (by omega), if_pos (by omega), if_pos (by omega), bt_nat s i hlt, List.drop_eq_getElem_cons hlt, List.all_cons, wrap_next (by omega)]
    generalize s.data.toList[i] = b
    unfold upper
    by_cases h1 : b.toNat < 65
    · rw [if_pos (by omega), decide_eq_false (by omega), Bool.false_and, Bool.false_and]
    · rw [if_neg (by omega), decide_eq_true (by omega), Bool.true_and]
      by_cases h2 : b.toNat > 90
      · rw [if_pos (by omega), decide_eq_false (by omega), Bool.false_and]
      · rw [if_neg (by omega), decide_eq_true (by omega), Bool.true_and]
        exact ih (i + 1) (by omega) k (by omega)
theorem refCur_eq (s : ByteArray) {k : Nat} (hk : 4 ≤ k) : supercargoref01_Currency.f k s = some (cur s) := by
  unfold supercargoref01_Currency.f cur
  by_cases h : s.size = 3
  · rw [if_pos (by omega), decide_eq_true h, Bool.true_and]
    exact refCur_l0 s h 3 0 rfl k hk
  · rw [if_neg (by omega), decide_eq_false h, Bool.false_and]
theorem refMay_eq (s : ByteArray) (n : Int) {k : Nat} (hk : 4 ≤ k) : supercargoref01_May.f k s n = some (may s n) := by
  unfold supercargoref01_May.f may within
  rw [refCur_eq s hk, Option.bind_some]
  cases cur s with
  | false => rw [if_neg (by simp), Bool.false_and]
  | true =>
    rw [if_pos rfl, Bool.true_and]
    by_cases h : n ≥ -1099511627776
    · rw [if_pos h, decide_eq_true (show -1099511627776 ≤ n from h), Bool.true_and]
    · rw [if_neg h, decide_eq_false (show ¬ -1099511627776 ≤ n from h), Bool.false_and]
theorem dgs_jpy : dgs ⟨#[74, 80, 89]⟩ = 0 := by decide
theorem dgs_usd : dgs ⟨#[85, 83, 68]⟩ = 2 := by decide
theorem num_jpy : numT 0 7 = [55] := by
  unfold numT
  rw [if_pos rfl, Dec.dec_small (by omega)]; rfl
theorem num_usd : numT 2 5 = [48, 46, 48, 53] := by
  unfold numT
  rw [if_neg (by omega), show 5 / 10 ^ 2 = 0 from rfl, Dec.dec_small (by omega)]; rfl
theorem txt_jpy : txt ⟨#[74, 80, 89]⟩ 7 = [74, 80, 89, 32, 55] := by
  unfold txt
  rw [dgs_jpy, show (7 : Int).natAbs = 7 from rfl, num_jpy]; rfl
theorem txt_usd : txt ⟨#[85, 83, 68]⟩ (-5) = [85, 83, 68, 32, 45, 48, 46, 48, 53] := by
  unfold txt
  rw [dgs_usd, show (-5 : Int).natAbs = 5 from rfl, num_usd]; rfl
theorem may_jpy : may ⟨#[74, 80, 89]⟩ 7 = true := by decide
theorem may_usd : may ⟨#[85, 83, 68]⟩ (-5) = true := by decide
theorem scale_usd : money_Scale.f 3 (⟨#[85, 83, 68]⟩ : ByteArray) (-10) 1 4 2 = some (⟨#[85, 83, 68]⟩, -3, true) := by
  have h : (money_Scale.f 3 (⟨#[85, 83, 68]⟩ : ByteArray) (-10) 1 4 2).map (fun x => (x.1.data.toList, x.2)) = some ([85, 83, 68], -3, true) := by decide +kernel
  cases e : money_Scale.f 3 (⟨#[85, 83, 68]⟩ : ByteArray) (-10) 1 4 2 with
  | none => rw [e] at h; cases h
  | some x =>
    obtain ⟨a, b⟩ := x
    rw [e] at h
    have h2 := Option.some.inj h
    have h3 : a.data.toList = [85, 83, 68] := (Prod.mk.inj h2).1
    have h4 : b = (-3, true) := (Prod.mk.inj h2).2
    rw [h4, ← strD_self a, h3]; rfl
theorem awake_eq {k : Nat} (hk : 3 ≤ k) : supercargolaw01_awake.f k = some true := by
  have hs : money_Scale.f k (⟨#[85, 83, 68]⟩ : ByteArray) (-10) 1 4 2 = some (⟨#[85, 83, 68]⟩, -3, true) := at_rounds (g := fun k => money_Scale.f k (⟨#[85, 83, 68]⟩ : ByteArray) (-10) 1 4 2) (fun k => money_Scale.mono _ _ _ _ _ k) hk scale_usd
  have hp := Parse_txt may_jpy (k := k) (by omega)
  rw [txt_jpy] at hp
  have ht := Text_eq ⟨#[85, 83, 68]⟩ (-5) (k := k) (by omega)
  rw [if_pos may_usd, txt_usd] at ht
  unfold supercargolaw01_awake.f
  rw [hs, Option.bind_some, show (⟨#[74, 80, 89, 32, 55]⟩ : ByteArray) = strD [74, 80, 89, 32, 55] from rfl, hp, Option.bind_some]
  simp only []
  rw [if_pos trivial, if_pos (by simp [ByteArray.toList_eq]), ht, Option.bind_some, if_pos (by rw [ByteArray.toList_eq, strD_list]), if_pos trivial]
  simp [ByteArray.toList_eq]
end Go.Proofs.YtggjphcikcflkaaDoor.Pure
