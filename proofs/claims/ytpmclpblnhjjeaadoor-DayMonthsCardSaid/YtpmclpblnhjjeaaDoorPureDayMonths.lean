/- The plain law of DayMonths. -/
import Derived.Test.YtpmclpblnhjjeaaDoorPureYear
namespace Go.Proofs.YtpmclpblnhjjeaaDoor.Pure
open Go.RowKit Go.Proofs.YtpmclpblnhjjeaaDoor.P Go.Proofs.YtpmclpblnhjjeaaDoorW.PrintWords Go.Proofs.YtpmclpblnhjjeaaDoorW.PrintLast

/-- The day of the month so many after January 2000, the day of the month being that one, or the last. -/
def dayAt (q r : Nat) : Nat := first (q / 12) + cum (lp (q / 12)) (q % 12) + (min (r + 1) (mlen (lp (q / 12)) (q % 12)) - 1)
/-- The day so many months on. -/
def tenorV (q : Int) (r : Nat) : Int × Bool := if q < 0 then (0, false) else if dayAt q.toNat r ≤ 1048576 then ((dayAt q.toNat r : Int), true) else (0, false)
theorem isDay_nat (n : Nat) : isDay (n : Int) = decide (n ≤ 1048576) := by
  unfold isDay
  rw [decide_eq_true (show (0 : Int) ≤ (n : Int) by omega), Bool.true_and, decide_eq_decide]
  omega
theorem isDay_lift {x : Int} (h : isDay x = true) : ∃ n : Nat, x = (n : Int) ∧ n ≤ 1048576 := by
  unfold isDay at h
  rw [Bool.and_eq_true, decide_eq_true_eq, decide_eq_true_eq] at h
  exact ⟨x.toNat, by omega, by omega⟩
theorem mn_nat (a b : Nat) : mn (a : Int) (b : Int) = ((min a b : Nat) : Int) := by unfold mn; split <;> omega
theorem month_any (y : Int) (m : Nat) (h : m < 12) : ∃ v, day_month.f y (m : Int) = some v := by
  have hl : ∃ b, day_leap.f y = some b := by
    unfold day_leap.f
    split
    · split
      · exact ⟨_, rfl⟩
      · exact ⟨_, rfl⟩
    · exact ⟨_, rfl⟩
  obtain ⟨b, hb⟩ := hl
  unfold day_month.f
  rw [if_pos (by omega), hb]
  split
  · exact ⟨_, rfl⟩
  · exact ⟨_, rfl⟩
/-- What is behind `Month`: the place so many months on. -/
theorem at_eq {y m : Nat} (hy : y ≤ 5000) (hm : m < 12) {c : Int} (h1 : -40000 ≤ c) (h2 : c ≤ 40000) : wrap64 (wrap64 (wrap64 (wrap64 (((2000 + y : Nat) : Int) * 12) + ((m + 1 : Nat) : Int)) - 1) + c) = 24000 + (12 * (y : Int) + (m : Int) + c) := by
  rw [wrap_in (x := ((2000 + y : Nat) : Int) * 12) (by omega) (by omega), wrap_in (x := ((2000 + y : Nat) : Int) * 12 + ((m + 1 : Nat) : Int)) (by omega) (by omega), wrap_in (x := ((2000 + y : Nat) : Int) * 12 + ((m + 1 : Nat) : Int) - 1) (by omega) (by omega), wrap_in (by omega) (by omega)]
  omega
theorem tenor_j0 {x y m r : Nat} (hy : y ≤ 5000) (hm : m < 12) {c : Int} (h1 : -40000 ≤ c) (h2 : c ≤ 40000) {k : Nat} (hk : 1048601 ≤ k)
    (hM : ∀ k, 1048600 ≤ k → day_Month.f k (x : Int) = some (((2000 + y : Nat) : Int), ((m + 1 : Nat) : Int), ((r + 1 : Nat) : Int))) : day_Tenor.j0 k (x : Int) c false = some (tenorV (12 * (y : Int) + (m : Int) + c) r) := by
  obtain ⟨k, rfl⟩ : ∃ j, k = j + 1 := ⟨k - 1, by omega⟩
  simp only [day_Tenor.j0]
  rw [if_neg (by simp), hM k (by omega), Option.bind_some]
  simp only []
  rw [at_eq hy hm h1 h2]
  unfold tenorV
  by_cases hq : 12 * (y : Int) + (m : Int) + c < 0
  · rw [if_pos hq]
    by_cases hn : 24000 + (12 * (y : Int) + (m : Int) + c) < 0
    · rw [if_pos hn]
    · rw [if_neg hn]
      obtain ⟨a, ha⟩ : ∃ a : Nat, 24000 + (12 * (y : Int) + (m : Int) + c) = (a : Int) := ⟨(24000 + (12 * (y : Int) + (m : Int) + c)).toNat, by omega⟩
      rw [ha]
      have e1 : Int.tdiv (a : Int) 12 = ((a / 12 : Nat) : Int) := tdiv_nat a 12
      have e2 : Int.tmod (a : Int) 12 = ((a % 12 : Nat) : Int) := tmod_nat a 12
      rw [e1, e2, wrap_in (by omega) (by omega)]
      obtain ⟨v, hv⟩ := month_any ((a / 12 : Nat) : Int) (a % 12) (by omega)
      rw [hv, Option.bind_some, of_no (by omega) (by omega)]
      rfl
  · rw [if_neg hq]
    obtain ⟨q, hqq⟩ : ∃ q : Nat, 12 * (y : Int) + (m : Int) + c = (q : Int) := ⟨(12 * (y : Int) + (m : Int) + c).toNat, by omega⟩
    rw [if_neg (by omega), hqq, Int.toNat_natCast]
    have e0 : (24000 : Int) + (q : Int) = ((24000 + q : Nat) : Int) := by omega
    have e1 : Int.tdiv ((24000 + q : Nat) : Int) 12 = (((24000 + q) / 12 : Nat) : Int) := tdiv_nat _ 12
    have e2 : Int.tmod ((24000 + q : Nat) : Int) 12 = (((24000 + q) % 12 : Nat) : Int) := tmod_nat _ 12
    have e3 : (24000 + q) / 12 = 2000 + q / 12 := by omega
    have e4 : (24000 + q) % 12 = q % 12 := by omega
    rw [e0, e1, e2, e3, e4, wrap_in (by omega) (by omega)]
    have hm' : q % 12 < 12 := by omega
    have hl := mlen_low (lp (q / 12)) (q % 12) hm'
    rw [month_eq _ _ hm', Option.bind_some, mn_nat]
    have e5 : min (r + 1) (mlen (lp (q / 12)) (q % 12)) = (min (r + 1) (mlen (lp (q / 12)) (q % 12)) - 1) + 1 := by omega
    rw [e5, of_eq (by omega) hm' (by omega) (by omega), Option.bind_some, isDay_nat]
    show (if decide (dayAt q r ≤ 1048576) = true then some (((dayAt q r : Nat) : Int), true) else some (0, false)) = _
    by_cases hd : dayAt q r ≤ 1048576
    · rw [if_pos hd, if_pos (by simpa using hd)]
    · rw [if_neg hd, if_neg (by simpa using hd)]
theorem refTenor_j0 {x y m r : Nat} (hy : y ≤ 5000) (hm : m < 12) {c : Int} (h1 : -40000 ≤ c) (h2 : c ≤ 40000) {k : Nat} (hk : 1048602 ≤ k)
    (hM : ∀ k, 1048600 ≤ k → supercargoref02_Month.f k (x : Int) = some (((2000 + y : Nat) : Int), ((m + 1 : Nat) : Int), ((r + 1 : Nat) : Int))) : supercargoref02_Tenor.j0 k (x : Int) c false = some (tenorV (12 * (y : Int) + (m : Int) + c) r) := by
  obtain ⟨k, rfl⟩ : ∃ j, k = j + 1 := ⟨k - 1, by omega⟩
  simp only [supercargoref02_Tenor.j0]
  rw [if_neg (by simp), hM k (by omega), Option.bind_some]
  simp only []
  rw [Int.mul_comm 12 ((2000 + y : Nat) : Int), at_eq hy hm h1 h2]
  obtain ⟨k, rfl⟩ : ∃ j, k = j + 1 := ⟨k - 1, by omega⟩
  unfold tenorV
  by_cases hq : 12 * (y : Int) + (m : Int) + c < 0
  · rw [if_pos hq, if_pos (by omega)]
    simp only [supercargoref02_Tenor.j1]
    rfl
  · rw [if_neg hq, if_neg (by omega)]
    obtain ⟨q, hqq⟩ : ∃ q : Nat, 12 * (y : Int) + (m : Int) + c = (q : Int) := ⟨(12 * (y : Int) + (m : Int) + c).toNat, by omega⟩
    rw [hqq, Int.toNat_natCast]
    have hm' : q % 12 < 12 := by omega
    have hl := mlen_low (lp (q / 12)) (q % 12) hm'
    have hf := first_low (q / 12)
    by_cases hb : (24000 : Int) + (q : Int) > 60000
    · rw [decide_eq_true hb]
      simp only [supercargoref02_Tenor.j1]
      have : ¬ dayAt q r ≤ 1048576 := by
        unfold dayAt
        omega
      rw [if_neg this]
      rfl
    · rw [decide_eq_false hb]
      simp only [supercargoref02_Tenor.j1]
      have e0 : (24000 : Int) + (q : Int) = ((24000 + q : Nat) : Int) := by omega
      have e1 : Int.tdiv ((24000 + q : Nat) : Int) 12 = (((24000 + q) / 12 : Nat) : Int) := tdiv_nat _ 12
      have e2 : Int.tmod ((24000 + q : Nat) : Int) 12 = (((24000 + q) % 12 : Nat) : Int) := tmod_nat _ 12
      have e3 : (24000 + q) / 12 = 2000 + q / 12 := by omega
      have e4 : (24000 + q) % 12 = q % 12 := by omega
      rw [if_neg (by simp), e0, e1, e2, e3, e4, wrap_in (x := ((2000 + q / 12 : Nat) : Int)) (by omega) (by omega), wrap_next (by omega), refDays_eq _ _ hm' (by omega), Option.bind_some]
      have fin : ∀ o : Nat, o + 1 = min (r + 1) (mlen (lp (q / 12)) (q % 12)) → ((supercargoref02_Day.f k ((2000 + q / 12 : Nat) : Int) ((q % 12 + 1 : Nat) : Int) ((o + 1 : Nat) : Int)).bind fun bt => (if bt.2 = true then (some (bt.1, true)) else (some (0, false)))) = some (if dayAt q r ≤ 1048576 then ((dayAt q r : Int), true) else (0, false)) := by
        intro o ho
        rw [refDay_eq (by omega) hm' (by omega) (by omega), Option.bind_some, isDay_nat]
        have ed : first (q / 12) + cum (lp (q / 12)) (q % 12) + o = dayAt q r := by unfold dayAt; omega
        rw [ed]
        by_cases hd : dayAt q r ≤ 1048576
        · rw [if_pos hd, if_pos (by simpa using hd)]
        · rw [if_neg hd, if_neg (by simpa using hd)]
      by_cases hr : ((r + 1 : Nat) : Int) > (mlen (lp (q / 12)) (q % 12) : Int)
      · rw [if_pos hr, Option.bind_some]
        have e5 : mlen (lp (q / 12)) (q % 12) = (mlen (lp (q / 12)) (q % 12) - 1) + 1 := by omega
        have := fin (mlen (lp (q / 12)) (q % 12) - 1) (by omega)
        rw [← e5] at this
        exact this
      · rw [if_neg hr]
        exact fin r (by omega)
/-- A month on is 28 to 31 days on. -/
theorem dayAt_next (q r : Nat) : dayAt q r < dayAt (q + 1) r ∧ dayAt (q + 1) r ≤ dayAt q r + 34 := by
  unfold dayAt
  have hm : q % 12 < 12 := by omega
  have hl := mlen_low (lp (q / 12)) (q % 12) hm
  have hl' := mlen_low (lp ((q + 1) / 12)) ((q + 1) % 12) (by omega)
  have hs : first ((q + 1) / 12) + cum (lp ((q + 1) / 12)) ((q + 1) % 12) = first (q / 12) + cum (lp (q / 12)) (q % 12) + mlen (lp (q / 12)) (q % 12) := by
    by_cases h : q % 12 = 11
    · have e1 : (q + 1) / 12 = q / 12 + 1 := by omega
      have e2 : (q + 1) % 12 = 0 := by omega
      have := cum_12 (q / 12)
      have g : cum (lp (q / 12)) 12 = cum (lp (q / 12)) 11 + mlen (lp (q / 12)) 11 := rfl
      rw [e1, e2, h]
      simp only [first, cum] at *
      omega
    · have e1 : (q + 1) / 12 = q / 12 := by omega
      have e2 : (q + 1) % 12 = q % 12 + 1 := by omega
      rw [e1, e2]
      simp only [cum]
      omega
  omega
theorem tenor_no {x c : Int} (h : isDay x = false ∨ c < -40000 ∨ c > 40000) {k : Nat} (hk : 1 ≤ k) : day_Tenor.f k x c = some (0, false) ∧ supercargoref02_Tenor.f k x c = some (0, false) := by
  obtain ⟨k, rfl⟩ : ∃ j, k = j + 1 := ⟨k - 1, by omega⟩
  unfold day_Tenor.f supercargoref02_Tenor.f
  rw [is_eq, refIs_eq]
  simp only [Option.bind_some]
  cases hd : isDay x
  · exact ⟨rfl, rfl⟩
  · rw [hd] at h
    by_cases h1 : c < -40000
    · simp only [if_pos h1, ↓reduceIte, day_Tenor.j0, supercargoref02_Tenor.j0]
      exact ⟨trivial, trivial⟩
    · have h2 : c > 40000 := by simpa [h1] using h
      simp only [if_neg h1, ↓reduceIte, decide_eq_true h2, day_Tenor.j0, supercargoref02_Tenor.j0]
      exact ⟨trivial, trivial⟩
theorem tenor_in {n y m r : Nat} (hy : y ≤ 5000) (hm : m < 12) (hn : n ≤ 1048576)
    (hM : ∀ k, 1048600 ≤ k → day_Month.f k (n : Int) = some (((2000 + y : Nat) : Int), ((m + 1 : Nat) : Int), ((r + 1 : Nat) : Int)) ∧
      supercargoref02_Month.f k (n : Int) = some (((2000 + y : Nat) : Int), ((m + 1 : Nat) : Int), ((r + 1 : Nat) : Int))) {c : Int} (h1 : -40000 ≤ c) (h2 : c ≤ 40000) {k : Nat} (hk : 1048605 ≤ k) :
    day_Tenor.f k (n : Int) c = some (tenorV (12 * (y : Int) + (m : Int) + c) r) ∧ supercargoref02_Tenor.f k (n : Int) c = some (tenorV (12 * (y : Int) + (m : Int) + c) r) := by
  have hd : isDay (n : Int) = true := by rw [isDay_nat]; simpa using hn
  obtain ⟨k, rfl⟩ : ∃ j, k = j + 1 := ⟨k - 1, by omega⟩
  unfold day_Tenor.f supercargoref02_Tenor.f
  rw [is_eq, refIs_eq, hd, Option.bind_some, Option.bind_some, if_pos rfl, if_pos rfl, if_neg (by omega), if_neg (by omega), decide_eq_false (by omega)]
  exact ⟨tenor_j0 hy hm h1 h2 (by omega) (fun k hk => (hM k hk).1), refTenor_j0 hy hm h1 h2 (by omega) fun k hk => (hM k hk).2⟩
theorem DayMonths (x c : Int) (_ : (Lit.int .i64 x).wf = true) (_ : (Lit.int .i64 c).wf = true) : ∃ k, supercargolaw02_DayMonths.f k x c = some true := by
  refine ⟨2000000, ?_⟩
  unfold supercargolaw02_DayMonths.f
  rw [awake_eq (by omega), Option.bind_some, if_pos rfl]
  cases hd : isDay x
  · rw [Month_no hd, Option.bind_some, (tenor_no (.inl hd) (by omega)).1, (tenor_no (.inl hd) (by omega)).2]
    simp only [Option.bind_some, ↓reduceIte]
    rw [show (2000000 : Nat) = 1999999 + 1 from rfl]
    simp only [supercargolaw02_DayMonths.j0]
    rw [if_neg (by simp), refIs_eq, hd]
    rfl
  · obtain ⟨n, rfl, hn⟩ := isDay_lift hd
    obtain ⟨y, m, r, h1, h2, h3, h4⟩ := Month_eq hn
    have hf := first_low y
    have hy : y ≤ 5000 := by omega
    have T := @tenor_in n y m r hy h1 hn h4
    -- behind the two months and the two tenors
    have J : ∀ t : Int × Bool, (-40000 ≤ c → c < 40000 → t = tenorV (12 * (y : Int) + (m : Int) + c) r) →
        supercargolaw02_DayMonths.j0 2000000 (n : Int) c ((2000 + y : Nat) : Int) ((m + 1 : Nat) : Int) ((r + 1 : Nat) : Int) t.1 t.2 false = some true := by
      intro t ht
      rw [show (2000000 : Nat) = 1999999 + 1 from rfl]
      simp only [supercargolaw02_DayMonths.j0]
      rw [if_neg (by simp), refIs_eq, hd, Option.bind_some, if_pos rfl, (h4 1999999 (by omega)).2, Option.bind_some]
      simp only [↓reduceIte, bne_self_eq_false]
      rw [show (1999999 : Nat) = 1999998 + 1 from rfl]
      simp only [supercargolaw02_DayMonths.j2]
      rw [if_neg (by simp), show (1999998 : Nat) = 1999997 + 1 from rfl]
      by_cases c1 : c < -40000
      · rw [if_pos c1]; simp only [supercargolaw02_DayMonths.j3]; rfl
      · rw [if_neg c1]
        by_cases c2 : c ≥ 40000
        · rw [if_pos c2]; simp only [supercargolaw02_DayMonths.j3]; rfl
        · rw [if_neg c2]
          have e := ht (by omega) (by omega)
          cases ht2 : t.2
          · simp only [supercargolaw02_DayMonths.j3]; rfl
          · simp only [supercargolaw02_DayMonths.j3]
            rw [if_neg (by simp), show wrap64 (c + 1) = c + 1 from wrap_in (by omega) (by omega), (T (c := c + 1) (by omega) (by omega) (by omega)).1, Option.bind_some]
            unfold tenorV at e ⊢
            rw [show 12 * (y : Int) + (m : Int) + (c + 1) = 12 * (y : Int) + (m : Int) + c + 1 by omega]
            generalize 12 * (y : Int) + (m : Int) + c = q at e ⊢
            by_cases q0 : q < 0
            · rw [if_pos q0] at e; rw [e] at ht2; cases ht2
            · rw [if_neg q0] at e
              by_cases q1 : dayAt q.toNat r ≤ 1048576
              · rw [if_pos q1] at e
                rw [if_neg (show ¬ q + 1 < 0 by omega), show (q + 1).toNat = q.toNat + 1 by omega, e]
                have := dayAt_next q.toNat r
                rw [show (1999997 : Nat) = 1999996 + 1 from rfl]
                by_cases q2 : dayAt (q.toNat + 1) r ≤ 1048576
                · rw [if_pos q2]
                  simp only []
                  rw [if_pos trivial, if_pos (show ((dayAt (q.toNat + 1) r : Nat) : Int) > ((dayAt q.toNat r : Nat) : Int) by omega), wrap_in (x := ((dayAt q.toNat r : Nat) : Int) + 31) (by omega) (by omega), wrap_in (by omega) (by omega), decide_eq_true (by omega)]
                  simp only [supercargolaw02_DayMonths.j4]
                · rw [if_neg q2]
                  simp only [supercargolaw02_DayMonths.j4]
                  rfl
              · rw [if_neg q1] at e; rw [e] at ht2; cases ht2
    rw [(h4 _ (by omega)).1, Option.bind_some]
    by_cases hr : c < -40000 ∨ c > 40000
    · rw [(tenor_no (.inr hr) (by omega)).1, (tenor_no (.inr hr) (by omega)).2]
      have := J (0, false) (fun a b => by omega)
      simpa using this
    · rw [(T (by omega) (by omega) (by omega)).1, (T (by omega) (by omega) (by omega)).2]
      have := J (tenorV (12 * (y : Int) + (m : Int) + c) r) (fun _ _ => rfl)
      simpa using this
end Go.Proofs.YtpmclpblnhjjeaaDoor.Pure
