-- Written by the session's own program xprint.py, which runs the kit's print over functions given by hand.
import Derived.Test.YtjmbglgchmhahaaDoorPx0
namespace Go.Proofs.YtjmbglgchmhahaaDoor.P
open Go.RowKit Go.Proofs.YtjmbglgchmhahaaDoorW.PrintWords Go.Proofs.YtjmbglgchmhahaaDoorW.PrintLast Go.Proofs.YtjmbglgchmhahaaDoorW.PrintMore
attribute [local go_sem] max2_int min2_int max_two min_two max_three min_three max_four min_four   -- for this text's walks alone
set_option linter.unusedVariables false
set_option linter.unusedSimpArgs false

/-! ### mark_Name: function 24 -/
namespace MarkName
def okI (c : Int) : Bool := (decide (97 ≤ c) && decide (c ≤ 122)) || (decide (48 ≤ c) && decide (c ≤ 57)) || c == 45

theorem lower_calls (c : Int) (w : World) :
  Calls Tryd.prog 38 #[.int .u8 c] w fun e w' => e = .returned (.bool (decide (97 ≤ c) && decide (c ≤ 122))) ∧ w = w' := by
 by_cases h1 : 97 ≤ c <;> by_cases h2 : c ≤ 122 <;> (
  go_enter Tryd.func38, Tryd.ntmps38
  go_wp2
  go_ret
  exact ⟨by simp [h1, h2], rfl⟩)
theorem digit_calls (c : Int) (w : World) :
  Calls Tryd.prog 39 #[.int .u8 c] w fun e w' => e = .returned (.bool (decide (48 ≤ c) && decide (c ≤ 57))) ∧ w = w' := by
 by_cases h1 : 48 ≤ c <;> by_cases h2 : c ≤ 57 <;> (
  go_enter Tryd.func39, Tryd.ntmps39
  go_wp2
  go_ret
  exact ⟨by simp [h1, h2], rfl⟩)
theorem lower_as (c : Int) (b : Bool) (hb : (decide (97 ≤ c) && decide (c ≤ 122)) = b) (w : World) :
  Calls Tryd.prog 38 #[.int .u8 c] w fun e w' => e = .returned (.bool b) ∧ w = w' := by
 subst hb; exact lower_calls c w
theorem digit_as (c : Int) (b : Bool) (hb : (decide (48 ≤ c) && decide (c ≤ 57)) = b) (w : World) :
  Calls Tryd.prog 39 #[.int .u8 c] w fun e w' => e = .returned (.bool b) ∧ w = w' := by
 subst hb; exact digit_calls c w
theorem sign_calls (c : Int) (w : World) :
  Calls Tryd.prog 37 #[.int .u8 c] w fun e w' => e = .returned (.bool (okI c)) ∧ w = w' := by
 rcases hl : (decide (97 ≤ c) && decide (c ≤ 122)) with _ | _
 ·rcases hd : (decide (48 ≤ c) && decide (c ≤ 57)) with _ | _
  ·have hf : okI c = (c == 45) := by unfold okI; rw [hl, hd]; rfl
   rw [hf]
   have L := lower_as c false hl
   have D := digit_as c false hd
   clear hl hd hf
   go_enter Tryd.func37, Tryd.ntmps37
   go_wp2_with (first | (go_at_call 38; refine (L _).mono ?_; rintro e w' ⟨rfl, rfl⟩) | (go_at_call 39; refine (D _).mono ?_; rintro e w' ⟨rfl, rfl⟩))
   go_ret
   exact ⟨rfl, rfl⟩
  ·have hf : okI c = true := by unfold okI; rw [hl, hd]; rfl
   rw [hf]
   have L := lower_as c false hl
   have D := digit_as c true hd
   clear hl hd hf
   go_enter Tryd.func37, Tryd.ntmps37
   go_wp2_with (first | (go_at_call 38; refine (L _).mono ?_; rintro e w' ⟨rfl, rfl⟩) | (go_at_call 39; refine (D _).mono ?_; rintro e w' ⟨rfl, rfl⟩))
   go_ret
   exact ⟨rfl, rfl⟩
 ·have hf : okI c = true := by unfold okI; rw [hl]; rfl
  rw [hf]
  have L := lower_as c true hl
  clear hl hf
  go_enter Tryd.func37, Tryd.ntmps37
  go_wp2_with (first | (go_at_call 38; refine (L _).mono ?_; rintro e w' ⟨rfl, rfl⟩))
  go_ret
  exact ⟨rfl, rfl⟩

def allB (s : ByteArray) : Bool := s.data.toList.all fun c => okI (c.toNat : Int)
def nameB (s : ByteArray) : Bool := decide (1 ≤ s.size) && (decide (s.size ≤ 16) && allB s)
theorem sign_as (c : Int) (b : Bool) (hb : okI c = b) (w : World) :
  Calls Tryd.prog 37 #[.int .u8 c] w fun e w' => e = .returned (.bool b) ∧ w = w' := by
 subst hb; exact sign_calls c w
theorem all_snoc (s : ByteArray) (k : Nat) (h : k < s.size) : s.data.toList.take (k + 1) = s.data.toList.take k ++ [s[k]] := by
 rw [List.take_succ_eq_append_getElem (by simpa using h)]; rfl
theorem ret_bool {a b : Bool} (h : a = b) : Ending.returned (.bool a) = .returned (.bool b) := by rw [h]
theorem all_no (s : ByteArray) (k : Nat) (h : k < s.size) (hb : okI (s[k].toNat : Int) = false) : (s.data.toList.all fun c => okI (c.toNat : Int)) = false := by
 rw [List.all_eq_false]
 exact ⟨s[k], Array.mem_toList_iff.mpr (Array.getElem_mem (xs := s.data) h), by simp [hb]⟩
theorem all_calls (s : ByteArray) (hs : s.size ≤ 16) (w : World) :
  Calls Tryd.prog 36 #[.string s, .func (.func 37) #[] #[]] w fun e w' => e = .returned (.bool (allB s)) ∧ w = w' := by
 go_enter Tryd.func36, Tryd.ntmps36
 go_wp2
 go_loop [5, 8] (fun _ i => ∃ k : Nat, k ≤ s.size ∧ i = .int .i64 k ∧ Hid (((s.data.toList.take k).all fun c => okI (c.toNat : Int)) = true)) (fun _ i => s.size - (intOf i).toNat)
 case atStart => exact ⟨0, Nat.zero_le _, rfl, by simp [Hid]⟩
 case round =>
  obtain ⟨k, hk, rfl, hall⟩ := hrel
  by_cases hlt : k < s.size
  ·rcases hok : okI (s[k].toNat : Int) with _ | _
   ·have C := sign_as _ false hok
    have F := Lib.hid (show allB s = false from all_no s k hlt hok)
    clear hok
    go_wp2_with (first | (go_at_call 37; refine (C _).mono ?_; rintro e w' ⟨rfl, rfl⟩))
    go_ret
    exact ⟨ret_bool F.out.symm, rfl⟩
   ·have C := sign_as _ true hok
    have F : Hid (((s.data.toList.take (k + 1)).all fun c => okI (c.toNat : Int)) = true) := by
     unfold Hid; rw [all_snoc s k hlt, List.all_append, hall.out]; simp [hok]
    clear hok
    go_wp2_with (first | (go_at_call 37; refine (C _).mono ?_; rintro e w' ⟨rfl, rfl⟩))
    go_round
    case rel => exact ⟨k + 1, by omega, by go_num, F⟩
    case measure => simp [intOf]; omega
  ·have F := Lib.hid (show allB s = true by
    have := hall.out; rwa [List.take_of_length_le (by simp; omega)] at this)
   go_wp2
   go_ret
   exact ⟨ret_bool F.out.symm, rfl⟩
theorem all_as (s : ByteArray) (hs : s.size ≤ 16) (b : Bool) (hb : allB s = b) (w : World) :
  Calls Tryd.prog 36 #[.string s, .func (.func 37) #[] #[]] w fun e w' => e = .returned (.bool b) ∧ w = w' := by
 subst hb; exact all_calls s hs w
theorem name_calls (s : ByteArray) (w : World) :
  Calls Tryd.prog 24 #[.string s] w fun e w' => e = .returned (.bool (nameB s)) ∧ w = w' := by
 by_cases h1 : 1 ≤ s.size
 ·by_cases h2 : s.size ≤ 16
  ·rcases hb : allB s with _ | _
   ·have F := Lib.hid (show nameB s = false by unfold nameB; simp [hb])
    have C := all_as s h2 false hb
    clear hb
    go_enter Tryd.func24, Tryd.ntmps24
    go_wp2_with (first | (go_at_call 36; refine (C _).mono ?_; rintro e w' ⟨rfl, rfl⟩))
    go_ret
    exact ⟨ret_bool F.out.symm, rfl⟩
   ·have F := Lib.hid (show nameB s = true by unfold nameB; simp [hb, h1, h2])
    have C := all_as s h2 true hb
    clear hb
    go_enter Tryd.func24, Tryd.ntmps24
    go_wp2_with (first | (go_at_call 36; refine (C _).mono ?_; rintro e w' ⟨rfl, rfl⟩))
    go_ret
    exact ⟨ret_bool F.out.symm, rfl⟩
  ·have F := Lib.hid (show nameB s = false by unfold nameB; simp [h2])
   go_enter Tryd.func24, Tryd.ntmps24
   go_wp2
   go_ret
   exact ⟨ret_bool F.out.symm, rfl⟩
 ·have F := Lib.hid (show nameB s = false by unfold nameB; simp [h1])
  go_enter Tryd.func24, Tryd.ntmps24
  go_wp2
  go_ret
  exact ⟨ret_bool F.out.symm, rfl⟩
end MarkName
def mark_Name.f (a0 : ByteArray) : Option (Bool) := some (MarkName.nameB a0)
theorem mark_Name.calls (a0 : ByteArray) (r : Bool) (w : World) (h : mark_Name.f a0 = some r) :
  Calls Tryd.prog 24 #[.string a0] w fun e w' => e = .returned (.bool r) ∧ Drawn0 w w' := by
 obtain rfl := Option.some.inj h
 exact (MarkName.name_calls a0 w).mono fun e w' ⟨he, hw⟩ => ⟨he, hw ▸ Drawn0.refl _⟩

end Go.Proofs.YtjmbglgchmhahaaDoor.P
