/- Numbers in digits: what the program prints and what the reference prints, in plain Lean. -/
import Derived.Test.YtpmclpblnhjjeaaDoorPureBase
import Derived.Test.YtpmclpblnhjjeaaDoorPx10
namespace Go.Proofs.YtpmclpblnhjjeaaDoor.Pure
open Go.RowKit Go.Proofs.YtpmclpblnhjjeaaDoor.P Go.Proofs.YtpmclpblnhjjeaaDoorW.PrintWords Go.Proofs.YtpmclpblnhjjeaaDoorW.PrintLast
/-- The byte of a digit. -/
def dg (n : Nat) : UInt8 := UInt8.ofNat (48 + n % 10)
def d2 (n : Nat) : List UInt8 := [dg (n / 10), dg n]
def d4 (n : Nat) : List UInt8 := [dg (n / 1000), dg (n / 100), dg (n / 10), dg n]
def strD (l : List UInt8) : ByteArray := ⟨l.toArray⟩
theorem two_a : ∀ a b : Fin 10, day_digits.f 5 ((10 * a.val + b.val : Nat) : Int) 2 = some (strD (d2 (10 * a.val + b.val))) := by
  intro a b
  have h : ∀ a b : Fin 10, (day_digits.f 5 ((10 * a.val + b.val : Nat) : Int) 2).map (fun s => s.data.toList) = some (d2 (10 * a.val + b.val)) := by decide +kernel
  have := h a b
  cases e : day_digits.f 5 ((10 * a.val + b.val : Nat) : Int) 2 with
  | none => rw [e] at this; cases this
  | some s =>
    rw [e] at this
    have h2 : s.data.toList = d2 (10 * a.val + b.val) := Option.some.inj this
    show some s = some (strD _)
    unfold strD
    rw [← h2]
theorem two_r : ∀ a b : Fin 10, (supercargoref02_digits.f 6 ((10 * a.val + b.val : Nat) : Int) 2).map (fun s => s.data.toList) = some (d2 (10 * a.val + b.val)) := by decide +kernel
theorem four_a : ∀ a : Fin 30, ∀ b : Fin 100, (day_digits.f 5 ((2000 + 100 * a.val + b.val : Nat) : Int) 4).map (fun s => s.data.toList) = some (d4 (2000 + 100 * a.val + b.val)) := by decide +kernel
theorem four_r : ∀ a : Fin 30, ∀ b : Fin 100, (supercargoref02_digits.f 6 ((2000 + 100 * a.val + b.val : Nat) : Int) 4).map (fun s => s.data.toList) = some (d4 (2000 + 100 * a.val + b.val)) := by decide +kernel
theorem of_map {x : Option ByteArray} {l : List UInt8} (h : x.map (fun s => s.data.toList) = some l) : x = some (strD l) := by
  cases x with
  | none => cases h
  | some s =>
    have h2 : s.data.toList = l := Option.some.inj h
    unfold strD
    rw [← h2]
theorem two_eq {n : Nat} (h : n < 100) {k : Nat} (hk : 6 ≤ k) : day_digits.f k (n : Int) 2 = some (strD (d2 n)) := by
  have := two_a ⟨n / 10, by omega⟩ ⟨n % 10, by omega⟩
  simp only [show 10 * (n / 10) + n % 10 = n by omega] at this
  exact at_rounds (g := fun k => day_digits.f k (n : Int) 2) (fun k => day_digits.mono _ _ k) (show 5 ≤ k by omega) this
theorem refTwo_eq {n : Nat} (h : n < 100) {k : Nat} (hk : 6 ≤ k) : supercargoref02_digits.f k (n : Int) 2 = some (strD (d2 n)) := by
  have := two_r ⟨n / 10, by omega⟩ ⟨n % 10, by omega⟩
  simp only [show 10 * (n / 10) + n % 10 = n by omega] at this
  exact at_rounds (g := fun k => supercargoref02_digits.f k (n : Int) 2) (fun k => supercargoref02_digits.mono _ _ k) hk (of_map this)
theorem four_eq {n : Nat} (h : n < 3000) {k : Nat} (hk : 6 ≤ k) : day_digits.f k ((2000 + n : Nat) : Int) 4 = some (strD (d4 (2000 + n))) := by
  have := four_a ⟨n / 100, by omega⟩ ⟨n % 100, by omega⟩
  simp only [show 2000 + 100 * (n / 100) + n % 100 = 2000 + n by omega] at this
  exact at_rounds (g := fun k => day_digits.f k ((2000 + n : Nat) : Int) 4) (fun k => day_digits.mono _ _ k) (show 5 ≤ k by omega) (of_map this)
theorem refFour_eq {n : Nat} (h : n < 3000) {k : Nat} (hk : 6 ≤ k) : supercargoref02_digits.f k ((2000 + n : Nat) : Int) 4 = some (strD (d4 (2000 + n))) := by
  have := four_r ⟨n / 100, by omega⟩ ⟨n % 100, by omega⟩
  simp only [show 2000 + 100 * (n / 100) + n % 100 = 2000 + n by omega] at this
  exact at_rounds (g := fun k => supercargoref02_digits.f k ((2000 + n : Nat) : Int) 4) (fun k => supercargoref02_digits.mono _ _ k) hk (of_map this)
end Go.Proofs.YtpmclpblnhjjeaaDoor.Pure
