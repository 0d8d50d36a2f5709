/- The plain law of DayParses. -/
import Derived.Test.YtpmclpblnhjjeaaDoorPureText
import Derived.Test.YtpmclpblnhjjeaaDoorPx12
namespace Go.Proofs.YtpmclpblnhjjeaaDoor.Pure
open Go.RowKit Go.Proofs.YtpmclpblnhjjeaaDoor.P Go.Proofs.YtpmclpblnhjjeaaDoorW.PrintWords Go.Proofs.YtpmclpblnhjjeaaDoorW.PrintLast
/-- A year, a month and a day of the month are told from their day. -/
theorem first_inj {y y' c c' : Nat} (h : first y + c = first y' + c') (h1 : c < yl y) (h2 : c' < yl y') : y = y' := by
  rcases Nat.lt_trichotomy y y' with h3 | h3 | h3
  · have := first_mono (show y + 1 ≤ y' by omega)
    have e : first (y + 1) = first y + yl y := rfl
    omega
  · exact h3
  · have := first_mono (show y' + 1 ≤ y by omega)
    have e : first (y' + 1) = first y' + yl y' := rfl
    omega
theorem cum_inj {b : Bool} {m m' r r' : Nat} (h : cum b m + r = cum b m' + r') (h1 : r < mlen b m) (h2 : r' < mlen b m') : m = m' ∧ r = r' := by
  rcases Nat.lt_trichotomy m m' with h3 | h3 | h3
  · have := cum_mono (b := b) (show m + 1 ≤ m' by omega)
    have e : cum b (m + 1) = cum b m + mlen b m := rfl
    omega
  · subst h3; omega
  · have := cum_mono (b := b) (show m' + 1 ≤ m by omega)
    have e : cum b (m' + 1) = cum b m' + mlen b m' := rfl
    omega
theorem cum_lt {n m r : Nat} (hm : m < 12) (hr : r < mlen (lp n) m) : cum (lp n) m + r < yl n := by
  have := cum_mono (b := lp n) (show m + 1 ≤ 12 by omega)
  have e : cum (lp n) (m + 1) = cum (lp n) m + mlen (lp n) m := rfl
  rw [cum_12] at this
  omega
/-- The day of any year, month and day of the month, by the program and by the reference. -/
theorem of_any {y m d : Nat} (hy : y < 10000) (hm : m < 100) (hd : d < 100) : ∃ v : Int × Bool, ∃ v' : Int × Bool, (∀ k, 200000 ≤ k → day_of.f k (y : Int) ((m : Int) - 1) (d : Int) = some v ∧ supercargoref02_Day.f k (y : Int) (m : Int) (d : Int) = some v') ∧ v.2 = v'.2 ∧ (v.2 = true → v.1 = v'.1 ∧
    ∃ a b c : Nat, y = 2000 + a ∧ m = b + 1 ∧ d = c + 1 ∧ b < 12 ∧ c < mlen (lp a) b ∧ v.1 = ((first a + cum (lp a) b + c : Nat) : Int) ∧ first a + cum (lp a) b + c ≤ 1048576) := by
  have no : (∀ k, 1 ≤ k → day_of.f k (y : Int) ((m : Int) - 1) (d : Int) = some (0, false)) → (∀ k, 1 ≤ k → supercargoref02_Day.f k (y : Int) (m : Int) (d : Int) = some (0, false)) → ∃ v : Int × Bool, ∃ v' : Int × Bool, (∀ k, 200000 ≤ k → day_of.f k (y : Int) ((m : Int) - 1) (d : Int) = some v ∧ supercargoref02_Day.f k (y : Int) (m : Int) (d : Int) = some v') ∧ v.2 = v'.2 ∧ (v.2 = true → v.1 = v'.1 ∧
    ∃ a b c : Nat, y = 2000 + a ∧ m = b + 1 ∧ d = c + 1 ∧ b < 12 ∧ c < mlen (lp a) b ∧ v.1 = ((first a + cum (lp a) b + c : Nat) : Int) ∧ first a + cum (lp a) b + c ≤ 1048576) :=
    fun h1 h2 => ⟨(0, false), (0, false), fun k hk => ⟨h1 k (by omega), h2 k (by omega)⟩, rfl, (fun h => by cases h)⟩
  by_cases c1 : y < 2000
  · refine no (fun k hk => of_no (by omega) hk) (fun k hk => ?_)
    obtain ⟨k, rfl⟩ : ∃ j, k = j + 1 := ⟨k - 1, by omega⟩
    unfold supercargoref02_Day.f
    rw [if_pos (by omega)]; rfl
  · obtain ⟨a, rfl⟩ : ∃ a, y = 2000 + a := ⟨y - 2000, by omega⟩
    by_cases c2 : m < 1 ∨ 12 < m
    · refine no (fun k hk => ?_) (fun k hk => ?_)
      · obtain ⟨k, rfl⟩ : ∃ j, k = j + 1 := ⟨k - 1, by omega⟩
        unfold day_of.f
        rw [if_neg (by omega)]
        by_cases c3 : (m : Int) - 1 < 0
        · rw [if_pos c3]; rfl
        · rw [if_neg c3, if_pos (by omega)]; rfl
      · obtain ⟨k, rfl⟩ : ∃ j, k = j + 1 := ⟨k - 1, by omega⟩
        unfold supercargoref02_Day.f
        rw [if_neg (by omega)]
        by_cases c4 : ((2000 + a : Nat) : Int) > 5000
        · rw [if_pos c4]; rfl
        · rw [if_neg c4]
          by_cases c3 : (m : Int) < 1
          · rw [if_pos c3]; rfl
          · rw [if_neg c3, if_pos (by omega)]; rfl
    · obtain ⟨b, rfl⟩ : ∃ b, m = b + 1 := ⟨m - 1, by omega⟩
      have hb : b < 12 := by omega
      have eb : ((b + 1 : Nat) : Int) - 1 = (b : Int) := by omega
      have hml := mlen_low (lp a) b hb
      rw [eb] at no ⊢
      by_cases c5 : d < 1 ∨ mlen (lp a) b < d
      · refine no (fun k hk => ?_) (fun k hk => ?_)
        · obtain ⟨k, rfl⟩ : ∃ j, k = j + 1 := ⟨k - 1, by omega⟩
          unfold day_of.f
          rw [if_neg (by omega), if_neg (by omega), if_neg (by omega)]
          by_cases c6 : (d : Int) < 1
          · rw [if_pos c6]; rfl
          · rw [if_neg c6, month_eq a b hb, Option.bind_some, decide_eq_true (by omega)]; rfl
        · obtain ⟨k, rfl⟩ : ∃ j, k = j + 1 := ⟨k - 1, by omega⟩
          unfold supercargoref02_Day.f
          rw [if_neg (by omega)]
          by_cases c4 : ((2000 + a : Nat) : Int) > 5000
          · rw [if_pos c4]; rfl
          · rw [if_neg c4, if_neg (by omega), if_neg (by omega)]
            by_cases c6 : (d : Int) < 1
            · rw [if_pos c6]; rfl
            · rw [if_neg c6, refDays_eq a b hb (by omega), Option.bind_some, decide_eq_true (by omega)]; rfl
      · obtain ⟨c, rfl⟩ : ∃ c, d = c + 1 := ⟨d - 1, by omega⟩
        have hc : c < mlen (lp a) b := by omega
        have hf := first_low a
        by_cases c7 : a ≤ 3000
        · refine ⟨_, _, fun k hk => ⟨of_eq (by omega) hb hc (by omega), refDay_eq c7 hb hc (by omega)⟩, rfl, fun h => ⟨rfl, a, b, c, rfl, rfl, rfl, hb, hc, rfl, ?_⟩⟩
          have h' : isDay ((first a + cum (lp a) b + c : Nat) : Int) = true := h
          unfold isDay at h'
          rw [Bool.and_eq_true, decide_eq_true_eq, decide_eq_true_eq] at h'
          omega
        · have hno : isDay ((first a + cum (lp a) b + c : Nat) : Int) = false := by
            unfold isDay
            rw [decide_eq_false (show ¬ ((first a + cum (lp a) b + c : Nat) : Int) ≤ 1048576 by omega), Bool.and_false]
          refine ⟨_, (0, false), fun k hk => ⟨of_eq (by omega) hb hc (by omega), ?_⟩, hno, fun h => ?_⟩
          · obtain ⟨k, rfl⟩ : ∃ j, k = j + 1 := ⟨k - 1, by omega⟩
            unfold supercargoref02_Day.f
            rw [if_neg (by omega), if_pos (by omega)]; rfl
          · have h' : isDay ((first a + cum (lp a) b + c : Nat) : Int) = true := h
            rw [hno] at h'; cases h'
theorem dig_le {a : UInt8} (h : isDig a = true) : 48 ≤ a.toNat ∧ a.toNat ≤ 57 := by
  unfold isDig at h
  rwa [Bool.and_eq_true, decide_eq_true_eq, decide_eq_true_eq] at h
theorem dg_of {n : Nat} {a : UInt8} (h : 48 + n % 10 = a.toNat) : dg n = a := by
  rw [← UInt8.toNat_inj, dg_nat]; exact h
theorem d2_of {a b : UInt8} (ha : isDig a = true) (hb : isDig b = true) : d2 (10 * (a.toNat - 48) + (b.toNat - 48)) = [a, b] := by
  have := dig_le ha
  have := dig_le hb
  unfold d2
  rw [dg_of (a := a) (by omega), dg_of (a := b) (by omega)]
theorem d4_of {a b c d : UInt8} (ha : isDig a = true) (hb : isDig b = true) (hc : isDig c = true) (hd : isDig d = true) : d4 (1000 * (a.toNat - 48) + 100 * (b.toNat - 48) + 10 * (c.toNat - 48) + (d.toNat - 48)) = [a, b, c, d] := by
  have := dig_le ha
  have := dig_le hb
  have := dig_le hc
  have := dig_le hd
  unfold d4
  rw [dg_of (a := a) (by omega), dg_of (a := b) (by omega), dg_of (a := c) (by omega), dg_of (a := d) (by omega)]
theorem refParse_no (s : ByteArray) (k : Nat) : supercargoref02_Parse.j0 (k + 1) s true = some (0, 2) := by simp only [supercargoref02_Parse.j0, ↓reduceIte]
/-- The reference at ten bytes. -/
theorem refParse_in {s : ByteArray} (hl : s.data.toList.length = 10) {k : Nat} (hk : 11 ≤ k) : supercargoref02_Parse.f (k + 1) s =
    if bt s 4 = 45 ∧ bt s 7 = 45 ∧ 0 ≤ numOf (s.data.toList.take 4) ∧ 0 ≤ numOf ((s.data.toList.drop 5).take 2) ∧ 0 ≤ numOf (s.data.toList.drop 8) then
      (supercargoref02_Day.f k (numOf (s.data.toList.take 4)) (numOf ((s.data.toList.drop 5).take 2)) (numOf (s.data.toList.drop 8))).bind fun bt => if bt.2 = true then some (bt.1, 0) else some (0, 3) else some (0, 2) := by
  have hs : s.size = 10 := by have : s.size = s.data.toList.length := by simp
                              omega
  have x1 : (s.extract 0 4).data.toList = s.data.toList.take 4 := by rw [extract_list]; rfl
  have x2 : (s.extract 5 7).data.toList = (s.data.toList.drop 5).take 2 := by rw [extract_list]
  have x3 : (s.extract 8 10).data.toList = s.data.toList.drop 8 := by rw [extract_list, List.take_of_length_le (by rw [List.length_drop]; omega)]
  have n1 : ∀ k, 11 ≤ k → supercargoref02_number.f k (s.extract 0 4) = some (numOf (s.data.toList.take 4)) := fun k hk => by
    rw [number_eq _ (by rw [x1, List.length_take]; omega) hk, x1]
  have n2 : ∀ k, 11 ≤ k → supercargoref02_number.f k (s.extract 5 7) = some (numOf ((s.data.toList.drop 5).take 2)) := fun k hk => by
    rw [number_eq _ (by rw [x2, List.length_take]; omega) hk, x2]
  have n3 : ∀ k, 11 ≤ k → supercargoref02_number.f k (s.extract 8 10) = some (numOf (s.data.toList.drop 8)) := fun k hk => by
    rw [number_eq _ (by rw [x3, List.length_drop]; omega) hk, x3]
  generalize numOf (s.data.toList.take 4) = A at *
  generalize numOf ((s.data.toList.drop 5).take 2) = B at *
  generalize numOf (s.data.toList.drop 8) = C at *
  unfold supercargoref02_Parse.f
  rw [hs, n1 (k + 1) (by omega), n2 (k + 1) (by omega), n3 (k + 1) (by omega)]
  have j : supercargoref02_Parse.j0 (k + 1) s false = (supercargoref02_Day.f k A B C).bind fun bt => if bt.2 = true then some (bt.1, 0) else some (0, 3) := by
    simp only [supercargoref02_Parse.j0]
    rw [hs, n1 k hk, n2 k hk, n3 k hk]
    rfl
  have t : supercargoref02_Parse.j0 (k + 1) s true = some (0, 2) := refParse_no s k
  rw [t]
  by_cases c1 : bt s 4 = 45
  · by_cases c2 : bt s 7 = 45
    · by_cases c3 : A < 0
      · rw [if_neg (show ¬ (bt s 4 = 45 ∧ bt s 7 = 45 ∧ 0 ≤ A ∧ 0 ≤ B ∧ 0 ≤ C) from fun z => absurd z.2.2.1 (by omega))]; simp [c1, c2, c3]
      · by_cases c4 : B < 0
        · rw [if_neg (show ¬ (bt s 4 = 45 ∧ bt s 7 = 45 ∧ 0 ≤ A ∧ 0 ≤ B ∧ 0 ≤ C) from fun z => absurd z.2.2.2.1 (by omega))]; simp [c1, c2, c4]
        · by_cases c5 : C < 0
          · rw [if_neg (show ¬ (bt s 4 = 45 ∧ bt s 7 = 45 ∧ 0 ≤ A ∧ 0 ≤ B ∧ 0 ≤ C) from fun z => absurd z.2.2.2.2 (by omega))]; simp [c1, c2, c5, t]
          · rw [if_pos (show (bt s 4 = 45 ∧ bt s 7 = 45 ∧ 0 ≤ A ∧ 0 ≤ B ∧ 0 ≤ C) from ⟨c1, c2, by omega, by omega, by omega⟩), ← j]; simp [c1, c2, c3, c4, c5]
    · rw [if_neg (show ¬ (bt s 4 = 45 ∧ bt s 7 = 45 ∧ 0 ≤ A ∧ 0 ≤ B ∧ 0 ≤ C) from fun z => c2 z.2.1)]; simp [c1, c2]
  · rw [if_neg (show ¬ (bt s 4 = 45 ∧ bt s 7 = 45 ∧ 0 ≤ A ∧ 0 ≤ B ∧ 0 ≤ C) from fun z => c1 z.1)]; simp [c1]
theorem num2 (a b : UInt8) : (isDig a = true ∧ isDig b = true ∧ numOf [a, b] = ((10 * (a.toNat - 48) + (b.toNat - 48) : Nat) : Int)) ∨ numOf [a, b] = -1 := by
  unfold numOf
  rw [dec2]
  by_cases h : isDig a = true ∧ isDig b = true
  · rw [if_pos h]; exact .inl ⟨h.1, h.2, rfl⟩
  · rw [if_neg h]; exact .inr rfl
theorem num4 (a b c d : UInt8) : (isDig a = true ∧ isDig b = true ∧ isDig c = true ∧ isDig d = true ∧ numOf [a, b, c, d] = ((1000 * (a.toNat - 48) + 100 * (b.toNat - 48) + 10 * (c.toNat - 48) + (d.toNat - 48) : Nat) : Int)) ∨ numOf [a, b, c, d] = -1 := by
  unfold numOf
  rw [dec4]
  by_cases h : isDig a = true ∧ isDig b = true ∧ isDig c = true ∧ isDig d = true
  · rw [if_pos h]; exact .inl ⟨h.1, h.2.1, h.2.2.1, h.2.2.2, rfl⟩
  · rw [if_neg h]; exact .inr rfl
theorem ten {l : List UInt8} (h : l.length = 10) : ∃ b0 b1 b2 b3 b4 b5 b6 b7 b8 b9, l = [b0, b1, b2, b3, b4, b5, b6, b7, b8, b9] := by
  match l, h with
  | [b0, b1, b2, b3, b4, b5, b6, b7, b8, b9], _ => exact ⟨_, _, _, _, _, _, _, _, _, _, rfl⟩
theorem Parses10 {s : ByteArray} (hl : s.data.toList.length = 10) : ∃ p : Int × Int, (∀ k, 300000 ≤ k → day_Parse.f k s = some p ∧ supercargoref02_Parse.f k s = some p) ∧ (p.2 = 0 → ∀ k, 1048600 ≤ k → day_Text.f k p.1 = some (strD s.data.toList)) := by
  obtain ⟨b0, b1, b2, b3, b4, b5, b6, b7, b8, b9, hL⟩ := ten hl
  have hf : okFrom s.data.toList 10 0 = (isDig b0 && (isDig b1 && (isDig b2 && (isDig b3 && (b4.toNat == 45 && (isDig b5 && (isDig b6 && (b7.toNat == 45 && (isDig b8 && (isDig b9 && true)))))))))) := by rw [hL]; rfl
  have h4 : bt s 4 = (b4.toNat : Int) := by
    have := bt_nat s 4 (by omega)
    have g : s.data.toList[4]'(by omega) = b4 := by simp only [hL]; rfl
    rw [g] at this; exact this
  have h7 : bt s 7 = (b7.toNat : Int) := by
    have := bt_nat s 7 (by omega)
    have g : s.data.toList[7]'(by omega) = b7 := by simp only [hL]; rfl
    rw [g] at this; exact this
  have t1 : s.data.toList.take 4 = [b0, b1, b2, b3] := by rw [hL]; rfl
  have t2 : (s.data.toList.drop 5).take 2 = [b5, b6] := by rw [hL]; rfl
  have t3 : s.data.toList.drop 8 = [b8, b9] := by rw [hL]; rfl
  have R := fun (k : Nat) (hk : 11 ≤ k) => refParse_in hl hk
  rw [t1, t2, t3, h4, h7] at R
  cases ho : okFrom s.data.toList 10 0
  · -- not in form
    refine ⟨(0, 2), fun k hk => ⟨?_, ?_⟩, (fun h => by cases h)⟩
    · unfold day_Parse.f
      rw [form_eq s hl (by omega), Option.bind_some, ho]; rfl
    · obtain ⟨k, rfl⟩ : ∃ j, k = j + 1 := ⟨k - 1, by omega⟩
      rw [R k (by omega), if_neg]
      rintro ⟨c1, c2, c3, c4, c5⟩
      rcases num4 b0 b1 b2 b3 with ⟨e0, e1, e2, e3, _⟩ | e
      · rcases num2 b5 b6 with ⟨e5, e6, _⟩ | e
        · rcases num2 b8 b9 with ⟨e8, e9, _⟩ | e
          · rw [hf, e0, e1, e2, e3, e5, e6, e8, e9, show b4.toNat = 45 by omega, show b7.toNat = 45 by omega] at ho
            cases ho
          · omega
        · omega
      · omega
  · rw [hf] at ho
    simp only [Bool.and_eq_true, beq_iff_eq, and_true] at ho
    obtain ⟨e0, e1, e2, e3, c4, e5, e6, c7, e8, e9⟩ := ho
    have g0 := dig_le e0
    have g1 := dig_le e1
    have g2 := dig_le e2
    have g3 := dig_le e3
    have g5 := dig_le e5
    have g6 := dig_le e6
    have g8 := dig_le e8
    have g9 := dig_le e9
    have D1 := dec4 b0 b1 b2 b3
    rw [if_pos ⟨e0, e1, e2, e3⟩] at D1
    have D2 := dec2 b5 b6
    rw [if_pos ⟨e5, e6⟩] at D2
    have D3 := dec2 b8 b9
    rw [if_pos ⟨e8, e9⟩] at D3
    have L1 := d4_of e0 e1 e2 e3
    have L2 := d2_of e5 e6
    have L3 := d2_of e8 e9
    have n1 : numOf [b0, b1, b2, b3] = ((1000 * (b0.toNat - 48) + 100 * (b1.toNat - 48) + 10 * (b2.toNat - 48) + (b3.toNat - 48) : Nat) : Int) := by unfold numOf; rw [D1]
    have n2 : numOf [b5, b6] = ((10 * (b5.toNat - 48) + (b6.toNat - 48) : Nat) : Int) := by unfold numOf; rw [D2]
    have n3 : numOf [b8, b9] = ((10 * (b8.toNat - 48) + (b9.toNat - 48) : Nat) : Int) := by unfold numOf; rw [D3]
    have B1 : 1000 * (b0.toNat - 48) + 100 * (b1.toNat - 48) + 10 * (b2.toNat - 48) + (b3.toNat - 48) < 10000 := by omega
    have B2 : 10 * (b5.toNat - 48) + (b6.toNat - 48) < 100 := by omega
    have B3 : 10 * (b8.toNat - 48) + (b9.toNat - 48) < 100 := by omega
    rw [n1, n2, n3] at R
    generalize 1000 * (b0.toNat - 48) + 100 * (b1.toNat - 48) + 10 * (b2.toNat - 48) + (b3.toNat - 48) = Y at *
    generalize 10 * (b5.toNat - 48) + (b6.toNat - 48) = M at *
    generalize 10 * (b8.toNat - 48) + (b9.toNat - 48) = D at *
    obtain ⟨v, v', hv, hv2, hv3⟩ := of_any B1 B2 B3
    have hok : okFrom s.data.toList 10 0 = true := by rw [hf, e0, e1, e2, e3, e5, e6, e8, e9, c4, c7]; rfl
    have P := fun (k : Nat) (hk : 11 ≤ k) => Parse_in hl hok (y := Y) (m := M) (d := D) (by rw [t1]; exact atoi_dec D1) (by rw [t2]; exact atoi_dec D2) (by rw [t3]; exact atoi_dec D3) B2 hk
    refine ⟨if v.2 = true then (v.1, 0) else (0, 3), fun k hk => ⟨?_, ?_⟩, fun h => ?_⟩
    · rw [P k (by omega), (hv k (by omega)).1, Option.bind_some]
      cases v.2 <;> rfl
    · obtain ⟨k, rfl⟩ : ∃ j, k = j + 1 := ⟨k - 1, by omega⟩
      rw [R k (by omega), if_pos ⟨by omega, by omega, by omega, by omega, by omega⟩, (hv k (by omega)).2, Option.bind_some, ← hv2]
      cases hq : v.2
      · rfl
      · rw [(hv3 hq).1]; rfl
    · cases hq : v.2
      · rw [hq] at h; cases h
      · intro k hk
        rw [if_pos rfl]
        obtain ⟨_, a, b, c, rfl, rfl, rfl, i1, i2, i3, i4⟩ := hv3 hq
        obtain ⟨y, m, r, j1, j2, j3, j4⟩ := Month_eq i4
        have q1 := cum_lt i1 i2
        have q2 := cum_lt j1 j2
        obtain rfl : a = y := first_inj (by omega) q1 q2
        obtain ⟨rfl, rfl⟩ := cum_inj (b := lp a) (m := b) (m' := m) (by omega) i2 j2
        have hf2 := first_low a
        have hml := mlen_low (lp a) b i1
        rw [i3, Text_eq i4 (by omega) i1 (by omega) (by omega) (j4 k hk).1]
        unfold txt
        rw [L1, L2, L3, hL]
        have s4 : b4 = 45 := by rw [← UInt8.toNat_inj, c4]; rfl
        have s7 : b7 = 45 := by rw [← UInt8.toNat_inj, c7]; rfl
        rw [s4, s7]; rfl
theorem DayParses (s : ByteArray) {p : Prop} (_ : p) : ∃ k, supercargolaw02_DayParses.f k s = some true := by
  refine ⟨2000000, ?_⟩
  unfold supercargolaw02_DayParses.f
  rw [awake_eq (by omega), Option.bind_some, if_pos rfl]
  by_cases c : (s.size : Int) > 1000
  · rw [if_pos c]
  · rw [if_neg c]
    have J : ∀ b : Bool, supercargolaw02_DayParses.j0 2000000 b = some b := by
      intro b
      rw [show (2000000 : Nat) = 1999999 + 1 from rfl]
      simp only [supercargolaw02_DayParses.j0]
    have hsz : s.size = s.data.toList.length := by simp
    by_cases h10 : s.data.toList.length = 10
    · obtain ⟨p, hp, ht⟩ := Parses10 h10
      rw [(hp 2000000 (by omega)).1, (hp 2000000 (by omega)).2, Option.bind_some, Option.bind_some, if_pos rfl, if_pos rfl]
      by_cases c0 : p.2 = 0
      · rw [if_pos c0, ht c0 2000000 (by omega), Option.bind_some, J, ByteArray.toList_eq, ByteArray.toList_eq, strD_list, beq_self_eq_true]
      · rw [if_neg c0, J]
    · have h1 : day_Parse.f 2000000 s = some (0, 2) := by
        unfold day_Parse.f day_form.f
        rw [if_neg (by omega)]; rfl
      have h2 : supercargoref02_Parse.f 2000000 s = some (0, 2) := by
        unfold supercargoref02_Parse.f
        rw [if_neg (by omega), show (2000000 : Nat) = 1999999 + 1 from rfl, refParse_no]
      rw [h1, h2, Option.bind_some, Option.bind_some, if_pos rfl, if_pos rfl, if_neg (by decide), J]
end Go.Proofs.YtpmclpblnhjjeaaDoor.Pure
