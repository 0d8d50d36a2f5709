/- The search among the holidays, the calendar that is gone by, and which days rest. -/
import Derived.Test.YtpmclpblnhjjeaaDoorPureRest
import Derived.Test.YtpmclpblnhjjeaaDoorPx13
import Derived.Test.YtpmclpblnhjjeaaDoorPx11
namespace Go.Proofs.YtpmclpblnhjjeaaDoor.Pure
open Go.RowKit Go.Proofs.YtpmclpblnhjjeaaDoor.P Go.Proofs.YtpmclpblnhjjeaaDoorW.PrintWords Go.Proofs.YtpmclpblnhjjeaaDoorW.PrintLast

theorem u64_in {x : Int} (h0 : 0 ≤ x) (h1 : x < 9223372036854775808) : IntKind.u64.wrap x = x := by
  show (let m := x % (2 ^ IntKind.u64.bits : Int); if IntKind.u64.signed && m ≥ (2 ^ (IntKind.u64.bits - 1) : Int) then m - (2 ^ IntKind.u64.bits : Int) else m) = x
  have e1 : (2 : Int) ^ IntKind.u64.bits = 18446744073709551616 := by decide
  have e2 : IntKind.u64.signed = false := rfl
  rw [e1, e2]
  simp
  omega
theorem mid_eq {a b : Nat} (h : a + b < 4611686018427387904) : wrap64 ((IntKind.u64.wrap (wrap64 ((a : Int) + (b : Int)))) / 2) = (((a + b) / 2 : Nat) : Int) := by
  have e1 : wrap64 ((a : Int) + (b : Int)) = (a : Int) + (b : Int) := wrap_in (by omega) (by omega)
  have e2 : IntKind.u64.wrap ((a : Int) + (b : Int)) = (a : Int) + (b : Int) := u64_in (by omega) (by omega)
  rw [e1, e2, wrap_in (by omega) (by omega)]
  omega
theorem less_eq (a b : Int) : cmp_Less_int.f a b = some (decide (a < b)) := by
  unfold cmp_Less_int.f cmp_isNaN_int.f
  simp
theorem pairwise_le {l : List Int} (h : l.Pairwise (· < ·)) : ∀ i j (hi : i < l.length) (hj : j < l.length), i ≤ j → l[i] ≤ l[j] := by
  intro i j hi hj hij
  rcases Nat.lt_or_ge i j with h1 | h1
  · exact Int.le_of_lt ((List.pairwise_iff_getElem.1 h) i j hi hj h1)
  · obtain rfl : i = j := by omega
    exact Int.le_refl _
theorem search_l0 (l : List Int) (x : Int) (hl : l.length ≤ 1000) (hp : l.Pairwise (· < ·)) (d : Nat) : ∀ a b, a ≤ b → b ≤ l.length → b - a ≤ d →
    (∀ i (hi : i < l.length), i < a → l[i] < x) → (∀ i (hi : i < l.length), b ≤ i → x ≤ l[i]) → ∃ r : Int, ∀ k, d + 1 ≤ k →
    slices_BinarySearch_int_int.l0 k l x (l.length : Int) (a : Int) (b : Int) = some (r, decide (x ∈ l)) := by
  induction d with
  | zero =>
    intro a b hab hb hd h1 h2
    obtain rfl : a = b := by omega
    refine ⟨a, fun k hk => ?_⟩
    obtain ⟨k, rfl⟩ : ∃ m, k = m + 1 := ⟨k - 1, by omega⟩
    simp only [slices_BinarySearch_int_int.l0]
    rw [if_neg (show ¬ (a : Int) < (a : Int) by omega)]
    by_cases ha : a < l.length
    · have c1 : (a : Int) < (l.length : Int) := by omega
      have c2 : (0 : Int) ≤ (a : Int) := by omega
      simp only [c1, c2, ↓reduceIte]
      rw [rd_at ha]
      by_cases e : l[a] = x
      · rw [if_pos e]
        have : x ∈ l := e ▸ List.getElem_mem ha
        simp [this]
      · rw [if_neg e]
        have n1 : slices_isNaN_int.f l[a] = some false := by unfold slices_isNaN_int.f; simp
        rw [n1]
        have : ¬ x ∈ l := by
          intro hx
          obtain ⟨i, hi, hix⟩ := List.getElem_of_mem hx
          rcases Nat.lt_trichotomy i a with h | h | h
          · have := h1 i hi h; omega
          · subst h; exact e hix
          · have := (List.pairwise_iff_getElem.1 hp) a i ha hi h
            have := h2 a ha (Nat.le_refl _)
            omega
        simp [this]
    · rw [if_neg (show ¬ (a : Int) < (l.length : Int) by omega)]
      have : ¬ x ∈ l := by
        intro hx
        obtain ⟨i, hi, hix⟩ := List.getElem_of_mem hx
        have := h1 i hi (by omega)
        omega
      simp [this]
  | succ d ih =>
    intro a b hab hb hd h1 h2
    rcases Nat.lt_or_ge a b with hlt | hge
    · have hm : (a + b) / 2 < l.length := by omega
      by_cases e : l[(a + b) / 2] < x
      · obtain ⟨r, hr⟩ := ih ((a + b) / 2 + 1) b (by omega) hb (by omega) (fun i hi h => by
          have := pairwise_le hp i ((a + b) / 2) hi hm (by omega)
          omega) h2
        refine ⟨r, fun k hk => ?_⟩
        obtain ⟨k, rfl⟩ : ∃ m, k = m + 1 := ⟨k - 1, by omega⟩
        simp only [slices_BinarySearch_int_int.l0]
        rw [mid_eq (by omega)]
        have c0 : (a : Int) < (b : Int) := by omega
        have c1 : (((a + b) / 2 : Nat) : Int) < (l.length : Int) := by omega
        have c2 : (0 : Int) ≤ (((a + b) / 2 : Nat) : Int) := by omega
        simp only [c0, c1, c2, ↓reduceIte]
        rw [rd_at hm, less_eq, wrap_next (by omega), hr k (by omega)]
        simp [e]
      · obtain ⟨r, hr⟩ := ih a ((a + b) / 2) (by omega) (by omega) (by omega) h1 (fun i hi h => by
          have := pairwise_le hp ((a + b) / 2) i hm hi (by omega)
          omega)
        refine ⟨r, fun k hk => ?_⟩
        obtain ⟨k, rfl⟩ : ∃ m, k = m + 1 := ⟨k - 1, by omega⟩
        simp only [slices_BinarySearch_int_int.l0]
        rw [mid_eq (by omega)]
        have c0 : (a : Int) < (b : Int) := by omega
        have c1 : (((a + b) / 2 : Nat) : Int) < (l.length : Int) := by omega
        have c2 : (0 : Int) ≤ (((a + b) / 2 : Nat) : Int) := by omega
        simp only [c0, c1, c2, ↓reduceIte]
        rw [rd_at hm, less_eq, hr k (by omega)]
        simp [e]
    · obtain ⟨r, hr⟩ := ih a b hab hb (by omega) h1 h2
      exact ⟨r, fun k hk => hr k (by omega)⟩

/-! The calendar that is gone by. -/
def may (l0 l1 : List Int) : Bool := rises l0 6 && rises l1 1048576
def own0 (l0 l1 : List Int) : List Int := if may l0 l1 = true then l0 else []
def own1 (l0 l1 : List Int) : List Int := if may l0 l1 = true then l1 else []
/-- Does a day rest? -/
def restD (l0 l1 : List Int) (d : Int) : Bool := decide (Int.tmod d 7 ∈ l0) || decide (d ∈ l1)
theorem own0_len (l0 l1 : List Int) : (own0 l0 l1).length ≤ l0.length := by unfold own0; split <;> simp
theorem own1_len (l0 l1 : List Int) : (own1 l0 l1).length ≤ l1.length := by unfold own1; split <;> simp
theorem own0_up {l0 l1 : List Int} : (∀ x ∈ own0 l0 l1, 0 ≤ x ∧ x ≤ 6) ∧ (own0 l0 l1).Pairwise (· < ·) := by
  unfold own0
  by_cases h : may l0 l1 = true
  · rw [if_pos h]
    unfold may at h
    rw [Bool.and_eq_true] at h
    exact rises_ok h.1
  · rw [if_neg h]; simp
theorem own1_up {l0 l1 : List Int} : (∀ x ∈ own1 l0 l1, 0 ≤ x ∧ x ≤ 1048576) ∧ (own1 l0 l1).Pairwise (· < ·) := by
  unfold own1
  by_cases h : may l0 l1 = true
  · rw [if_pos h]
    unfold may at h
    rw [Bool.and_eq_true] at h
    exact rises_ok h.2
  · rw [if_neg h]; simp
theorem may_eq {l0 l1 : List Int} (h0 : l0.length ≤ 1000) (h1 : l1.length ≤ 1000) {k : Nat} (hk : 1001 ≤ k) : day_May.f k l0 l1 = some (may l0 l1) := by
  unfold day_May.f may
  rw [rises_eq l0 6 h0 k (by omega), rises_eq l1 1048576 h1 k (by omega)]
  cases rises l0 6 <;> rfl
theorem refMay_eq {l0 l1 : List Int} (h0 : l0.length ≤ 1000) (h1 : l1.length ≤ 1000) {k : Nat} (hk : 1001 ≤ k) : supercargoref02_May.f k l0 l1 = some (may l0 l1) := by
  unfold supercargoref02_May.f may
  rw [refRises_eq l0 6 h0 k (by omega), refRises_eq l1 1048576 h1 k (by omega)]
  cases rises l0 6 <;> rfl
theorem own_eq {l0 l1 : List Int} (h0 : l0.length ≤ 1000) (h1 : l1.length ≤ 1000) {k : Nat} (hk : 1001 ≤ k) : day_own.f k l0 l1 = some (own0 l0 l1, own1 l0 l1) := by
  unfold day_own.f own0 own1
  rw [may_eq h0 h1 hk, Option.bind_some]
  cases may l0 l1 <;> rfl
theorem free_eq {l0 l1 : List Int} (h1 : l1.length ≤ 1000) (hp : l1.Pairwise (· < ·)) (d : Int) {k : Nat} (hk : 1001 ≤ k) : day_free.f k l0 l1 d = some (decide (d ∈ l1)) := by
  obtain ⟨r, hr⟩ := search_l0 l1 d h1 hp l1.length 0 l1.length (by omega) (by omega) (by omega) (fun i _ h => by omega) (fun i hi h => by omega)
  unfold day_free.f slices_BinarySearch_int_int.f
  have := hr k (by omega)
  rw [show ((0 : Nat) : Int) = 0 from rfl] at this
  rw [this]; rfl
theorem rests_eq {l0 l1 : List Int} (h0 : l0.length ≤ 1000) (h1 : l1.length ≤ 1000) (hp : l1.Pairwise (· < ·)) (d : Int) {k : Nat} (hk : 1001 ≤ k) : day_rests.f k l0 l1 d = some (restD l0 l1 d) := by
  unfold day_rests.f restD
  rw [contains_eq l0 _ h0 k (by omega), free_eq h1 hp d hk, Option.bind_some]
  cases decide (Int.tmod d 7 ∈ l0) <;> rfl
/-- Does a day rest, by any calendar? -/
def restsD (l0 l1 : List Int) (d : Int) : Bool := isDay d && restD (own0 l0 l1) (own1 l0 l1) d
theorem Rests_eq {l0 l1 : List Int} (h0 : l0.length ≤ 1000) (h1 : l1.length ≤ 1000) (d : Int) {k : Nat} (hk : 1001 ≤ k) : day_Rests.f k l0 l1 d = some (restsD l0 l1 d) := by
  unfold day_Rests.f restsD
  rw [is_eq, Option.bind_some]
  cases isDay d
  · rfl
  · rw [if_pos rfl, own_eq h0 h1 hk, Option.bind_some]
    have g0 := own0_len l0 l1
    have g1 := own1_len l0 l1
    have := rests_eq (l0 := own0 l0 l1) (l1 := own1 l0 l1) (by omega) (by omega) own1_up.2 d hk
    rw [this]
    rfl
theorem refRests_eq {l0 l1 : List Int} (h0 : l0.length ≤ 1000) (h1 : l1.length ≤ 1000) (d : Int) {k : Nat} (hk : 1001 ≤ k) : supercargoref02_Rests.f k l0 l1 d = some (restsD l0 l1 d) := by
  unfold supercargoref02_Rests.f restsD
  rw [refIs_eq, Option.bind_some]
  cases isDay d
  · rfl
  · rw [if_pos rfl, refMay_eq h0 h1 hk, Option.bind_some]
    unfold own0 own1 restD
    cases may l0 l1
    · simp
    · rw [if_pos rfl, if_pos rfl, in_eq l0 _ h0 k (by omega), in_eq l1 _ h1 k (by omega), Option.bind_some]
      cases decide (Int.tmod d 7 ∈ l0) <;> rfl
end Go.Proofs.YtpmclpblnhjjeaaDoor.Pure
