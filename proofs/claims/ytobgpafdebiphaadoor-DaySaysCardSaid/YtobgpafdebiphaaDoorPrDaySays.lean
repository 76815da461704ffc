/- Any date's day, any day's date, which years leap, which day of the week, which bucket, what is left to an end, are what the chapter says: the pure statement of DaySays, for all dates and numbers. Conditions: none beyond the statement's own. -/
import Derived.Test.YtobgpafdebiphaaDoorEDaySaysx
import Derived.Test.YtobgpafdebiphaaDoorOpen
namespace Go.Proofs.YtobgpafdebiphaaDoor.PrDaySays
open Go.RowKit Go.Proofs.YtobgpafdebiphaaDoor.EDaySays Go.Proofs.YtobgpafdebiphaaDoorW.PrintWords Go.Proofs.YtobgpafdebiphaaDoorW.PrintLast Go.Proofs.YtobgpafdebiphaaDoorW.PrintMore Go.Proofs.YtobgpafdebiphaaDoorW.PrintOpen
set_option linter.unusedSimpArgs false
set_option linter.unusedVariables false
theorem w64 (x : Int) (h1 : -9223372036854775808 ≤ x) (h2 : x ≤ 9223372036854775807) : wrap64 x = x := by unfold wrap64; omega
theorem w64s (x : Int) (h1 : -1000000000 ≤ x) (h2 : x ≤ 1000000000) : wrap64 x = x := by unfold wrap64; omega
theorem wu64 (n : Int) : IntKind.u64.wrap n = n % 18446744073709551616 := by simp [IntKind.wrap, IntKind.bits, IntKind.signed]
theorem rd_nat (l : List Int) (i : Nat) : rd l (i : Int) = l.getD i 0 := by unfold rd; rw [Int.toNat_natCast]
theorem rd_mem (l : List Int) (i : Nat) (h : i < l.length) : rd l (i : Int) ∈ l := by
  rw [rd_nat, List.getD_eq_getElem?_getD, List.getElem?_eq_getElem h]; exact List.getElem_mem h
theorem take_snoc_sum (l : List Int) (i : Nat) (h : i < l.length) : (l.take (i + 1)).sum = (l.take i).sum + rd l (i : Int) := by
  rw [List.take_succ_eq_append_getElem h, List.sum_append, rd_nat, List.getD_eq_getElem?_getD, List.getElem?_eq_getElem h]; simp
/-- A year that leaps. -/
def leap (y : Int) : Prop := y % 4 = 0 ∧ (y % 100 ≠ 0 ∨ y % 400 = 0)
instance (y : Int) : Decidable (leap y) := by unfold leap; infer_instance
theorem tmod_zero (a b : Int) : Int.tmod a b = 0 ↔ a % b = 0 := by rw [← Int.dvd_iff_tmod_eq_zero, Int.dvd_iff_emod_eq_zero]
theorem leap_iff (y : Int) : leap y ↔ y % 4 = 0 ∧ (y % 100 ≠ 0 ∨ y % 400 = 0) := Iff.rfl
theorem Leap_eq (y : Int) : day_Leap.f y = some (decide (leap y)) := by
  unfold day_Leap.f
  have h1 := tmod_zero y 4
  have h2 := tmod_zero y 100
  have h3 := tmod_zero y 400
  have h4 := leap_iff y
  by_cases c1 : Int.tmod y 4 = 0
  · rw [if_pos c1]
    have c1' := h1.1 c1
    by_cases c2 : Int.tmod y 100 = 0
    · have c2' := h2.1 c2
      rw [if_pos c2]
      congr 1
      rw [Bool.eq_iff_iff, beq_iff_eq, decide_eq_true_eq, h3, h4]
      omega
    · have c2' : ¬ y % 100 = 0 := fun h => c2 (h2.2 h)
      rw [if_neg c2, decide_eq_true (h4.2 ⟨c1', .inl c2'⟩)]
  · have c1' : ¬ y % 4 = 0 := fun h => c1 (h1.2 h)
    rw [if_neg c1, decide_eq_false (fun h => c1' (h4.1 h).1)]
/-- A year's days; a month's days. -/
def ln (y : Int) : Int := if leap y then 366 else 365
def dm (y m : Int) : Int := if m = 2 then (if leap y then 29 else 28) else if m = 4 then 30 else if m = 6 then 30 else if m = 9 then 30 else if m = 11 then 30 else 31
theorem long_eq (y : Int) : day_long.f y = some (ln y) := by
  unfold day_long.f ln
  rw [Leap_eq]
  simp only [Option.bind_some, decide_eq_true_eq]
  split <;> rfl
theorem days_eq (k : Nat) (y m : Int) : day_days.f (k + 1) y m = some (dm y m) := by
  unfold day_days.f dm
  rw [Leap_eq]
  simp only [Option.bind_some]
  by_cases h : m = 2
  · rw [if_pos h, if_pos h]
    simp only [day_days.j0, decide_eq_true_eq, if_pos h]
    split <;> rfl
  · rw [if_neg h, if_neg h]
    simp only [day_days.j0, Bool.false_eq_true, if_false, if_neg h]
    repeat' split
    all_goals rfl
theorem ln_bd (y : Int) : 365 ≤ ln y ∧ ln y ≤ 366 := by unfold ln; split <;> omega
theorem dm_bd (y m : Int) : 28 ≤ dm y m ∧ dm y m ≤ 31 := by unfold dm; repeat' split
                                                            all_goals omega
/-- The days before a year; the days of a year before a month. -/
def cy : Nat → Int
  | 0 => 0
  | j + 1 => cy j + ln (2000 + (j : Int))
def cm (y : Int) : Nat → Int
  | 0 => 0
  | i + 1 => cm y i + dm y ((i : Int) + 1)
theorem cy_bd : ∀ j : Nat, 365 * (j : Int) ≤ cy j ∧ cy j ≤ 366 * (j : Int)
  | 0 => by simp [cy]
  | j + 1 => by
    have h := cy_bd j
    have h2 := ln_bd (2000 + (j : Int))
    simp only [cy]
    omega
theorem cy_le (a : Nat) : ∀ b : Nat, cy a ≤ cy (a + b)
  | 0 => by simp
  | b + 1 => by
    have h := cy_le a b
    have h2 := ln_bd (2000 + ((a + b : Nat) : Int))
    rw [← Nat.add_assoc]
    simp only [cy]
    omega
theorem cm_bd (y : Int) : ∀ j : Nat, 28 * (j : Int) ≤ cm y j ∧ cm y j ≤ 31 * (j : Int)
  | 0 => by simp [cm]
  | j + 1 => by
    have h := cm_bd y j
    have h2 := dm_bd y ((j : Int) + 1)
    simp only [cm]
    omega
theorem cm_le (y : Int) (a : Nat) : ∀ b : Nat, cm y a ≤ cm y (a + b)
  | 0 => by simp
  | b + 1 => by
    have h := cm_le y a b
    have h2 := dm_bd y (((a + b : Nat) : Int) + 1)
    rw [← Nat.add_assoc]
    simp only [cm]
    omega
theorem cm_all (y : Int) : cm y 12 = ln y := by
  simp only [cm, ln]
  by_cases h : leap y <;> simp [dm, h]
/-- A date that is there: its number of the year, of the month, its day, and which day it is. -/
structure Dt (j i : Nat) (d n : Int) : Prop where
  hi : i < 12
  d1 : 1 ≤ d
  d2 : d ≤ dm (2000 + (j : Int)) ((i : Int) + 1)
  hn : n = cy j + cm (2000 + (j : Int)) i + d - 1
theorem Dt.rest {j i : Nat} {d n : Int} (h : Dt j i d n) : 0 ≤ n - cy j ∧ n - cy j < ln (2000 + (j : Int)) := by
  obtain ⟨hi, d1, d2, hn⟩ := h
  have h1 := cm_bd (2000 + (j : Int)) i
  have h2 := cm_le (2000 + (j : Int)) (i + 1) (11 - i)
  rw [show i + 1 + (11 - i) = 12 by omega, cm_all] at h2
  simp only [cm] at h2
  omega
theorem Dt.ex : ∀ n : Nat, ∃ j i d, Dt j i d (n : Int)
  | 0 => ⟨0, 0, 1, by omega, by omega, by have := dm_bd 2000 1; simp; omega, by simp [cy, cm]⟩
  | n + 1 => by
    obtain ⟨j, i, d, hi, d1, d2, hn⟩ := Dt.ex n
    by_cases h : d < dm (2000 + (j : Int)) ((i : Int) + 1)
    · exact ⟨j, i, d + 1, hi, by omega, by omega, by omega⟩
    · by_cases h2 : i < 11
      · refine ⟨j, i + 1, 1, by omega, by omega, ?_, ?_⟩
        · have := dm_bd (2000 + (j : Int)) (((i + 1 : Nat) : Int) + 1); omega
        · simp only [cm]; omega
      · obtain rfl : i = 11 := by omega
        refine ⟨j + 1, 0, 1, by omega, by omega, ?_, ?_⟩
        · have := dm_bd (2000 + ((j + 1 : Nat) : Int)) (((0 : Nat) : Int) + 1); omega
        · have h3 := cm_all (2000 + (j : Int))
          have h4 : cm (2000 + (j : Int)) 12 = cm (2000 + (j : Int)) 11 + dm (2000 + (j : Int)) (((11 : Nat) : Int) + 1) := rfl
          have h5 : cy (j + 1) = cy j + ln (2000 + (j : Int)) := rfl
          have h6 : cm (2000 + ((j + 1 : Nat) : Int)) 0 = 0 := rfl
          omega
theorem At_l1 (y : Int) (hy : 2000 ≤ y ∧ y ≤ 3000) (i : Nat) (hi : i < 12) (d : Int) (d1 : 1 ≤ d) (d2 : d ≤ dm y ((i : Int) + 1)) : ∀ (t a k : Nat), i - a = t → a ≤ i → t + 2 < k →
    day_At.l1 k (cm y i + d - 1 - cm y a) y ((a : Int) + 1) 1 = some (y, (i : Int) + 1, d, none) := by
  intro t
  have hb := dm_bd y ((i : Int) + 1)
  have hcb := cm_bd y i
  induction t with
  | zero =>
    intro a k ht ha hk
    obtain rfl : a = i := by omega
    obtain ⟨k, rfl⟩ : ∃ m, k = m + 1 := ⟨k - 1, by omega⟩
    obtain ⟨k', hk'⟩ : ∃ m, k = m + 1 := ⟨k - 1, by omega⟩
    have hd := days_eq k' y ((a : Int) + 1)
    rw [← hk'] at hd
    clear hk'
    simp only [day_At.l1]
    rw [hd]
    simp only [Option.bind_some]
    rw [if_neg (by omega)]
    have e : wrap64 (1 + (cm y a + d - 1 - cm y a)) = d := by rw [w64s _ (by omega) (by omega)]; omega
    rw [e]
  | succ t ih =>
    intro a k ht ha hk
    obtain ⟨k, rfl⟩ : ∃ m, k = m + 1 := ⟨k - 1, by omega⟩
    obtain ⟨k', hk'⟩ : ∃ m, k = m + 1 := ⟨k - 1, by omega⟩
    have hc := cm_le y (a + 1) (i - (a + 1))
    rw [show a + 1 + (i - (a + 1)) = i by omega] at hc
    have ha0 := cm_bd y a
    have hm0 := dm_bd y ((a : Int) + 1)
    have hd := days_eq k' y ((a : Int) + 1)
    rw [← hk'] at hd
    simp only [day_At.l1]
    rw [hd]
    simp only [Option.bind_some]
    have hx : cm y (a + 1) = cm y a + dm y ((a : Int) + 1) := rfl
    rw [if_pos (by omega), w64s _ (by omega) (by omega), w64s _ (by omega) (by omega)]
    have := ih (a + 1) k (by omega) (by omega) (by omega)
    rw [hx] at this
    rw [show cm y i + d - 1 - cm y a - dm y ((a : Int) + 1) = cm y i + d - 1 - (cm y a + dm y ((a : Int) + 1)) by omega]
    simpa using this
theorem At_l0 {j i : Nat} {d n : Int} (h : Dt j i d n) (hj : j ≤ 500) : ∀ (t a k : Nat), j - a = t → a ≤ j → t + 20 < k →
    day_At.l0 k (n - cy a) (2000 + (a : Int)) 1 1 = some (2000 + (j : Int), (i : Int) + 1, d, none) := by
  intro t
  have hr := h.rest
  have hln := ln_bd (2000 + (j : Int))
  have hcj := cy_bd j
  induction t with
  | zero =>
    intro a k ht ha hk
    obtain rfl : a = j := by omega
    obtain ⟨k, rfl⟩ : ∃ m, k = m + 1 := ⟨k - 1, by omega⟩
    simp only [day_At.l0]
    rw [long_eq]
    simp only [Option.bind_some]
    rw [if_neg (by omega)]
    have := At_l1 (2000 + (a : Int)) (by omega) i h.hi d h.d1 h.d2 i 0 k (by omega) (by omega) (by have := h.hi; omega)
    have hn := h.hn
    rw [show n - cy a = cm (2000 + (a : Int)) i + d - 1 - cm (2000 + (a : Int)) 0 by simp only [cm]; omega]
    simpa using this
  | succ t ih =>
    intro a k ht ha hk
    obtain ⟨k, rfl⟩ : ∃ m, k = m + 1 := ⟨k - 1, by omega⟩
    have hc := cy_le (a + 1) (j - (a + 1))
    rw [show a + 1 + (j - (a + 1)) = j by omega] at hc
    have ha0 := cy_bd a
    have hx : cy (a + 1) = cy a + ln (2000 + (a : Int)) := rfl
    have hb := ln_bd (2000 + (a : Int))
    simp only [day_At.l0]
    rw [long_eq]
    simp only [Option.bind_some]
    rw [if_pos (by omega), w64s _ (by omega) (by omega), w64s _ (by omega) (by omega)]
    have := ih (a + 1) k (by omega) (by omega) (by omega)
    rw [hx] at this
    rw [show n - cy a - ln (2000 + (a : Int)) = n - (cy a + ln (2000 + (a : Int))) by omega, show 2000 + (a : Int) + 1 = 2000 + ((a + 1 : Nat) : Int) by omega]
    exact this
theorem At_eq {j i : Nat} {d n : Int} (h : Dt j i d n) (hn : n ≤ 40000) (k : Nat) (hk : 200 < k) : day_At.f k n = some (2000 + (j : Int), (i : Int) + 1, d, none) := by
  have hr := h.rest
  have hc := cy_bd j
  unfold day_At.f
  rw [if_neg (by omega), decide_eq_false (by omega)]
  obtain ⟨k, rfl⟩ : ∃ m, k = m + 1 := ⟨k - 1, by omega⟩
  simp only [day_At.j0, Bool.false_eq_true, if_false]
  have := At_l0 h (by omega) j 0 k (by omega) (by omega) (by omega)
  simpa [cy] using this
theorem At_out (n : Int) (h : n < 0 ∨ 40000 < n) (k : Nat) : day_At.f (k + 1) n = some (0, 0, 0, some 103) := by
  unfold day_At.f
  by_cases h1 : n < 0
  · rw [if_pos h1]; simp [day_At.j0]
  · rw [if_neg h1, decide_eq_true (by omega)]; simp [day_At.j0]
theorem Dt.uniq {j i : Nat} {d n : Int} (h : Dt j i d n) {j' i' : Nat} {d' : Int} (h' : Dt j' i' d' n) (hn : n ≤ 40000) : j = j' ∧ i = i' ∧ d = d' := by
  have e1 := At_eq h hn 201 (by omega)
  have e2 := At_eq h' hn 201 (by omega)
  rw [e1] at e2
  simp only [Option.some.injEq, Prod.mk.injEq] at e2
  omega
theorem first4_eq (k : Nat) (hk : 200 < k) : pledgelaw4_first.f k = some true := by
  unfold pledgelaw4_first.f
  have h : Dt 0 1 29 59 := ⟨by omega, by omega, by decide, by decide⟩
  rw [At_eq h (by omega) k hk]
  rfl
theorem Of_l1 (y : Int) (i : Nat) (hi : i ≤ 12) (a2 : Int) : ∀ (t a k : Nat) (c : Int), i - a = t → a ≤ i → t + 2 < k → -1000000 ≤ c - cm y a → c - cm y a ≤ 1000000 →
    day_Of.l1 k c ((a : Int) + 1) y ((i : Int) + 1) a2 = some (if c - cm y a + cm y i > 40000 then (0, some 103) else (c - cm y a + cm y i, none)) := by
  intro t
  induction t with
  | zero =>
    intro a k c ht ha hk h1 h2
    obtain rfl : a = i := by omega
    obtain ⟨k, rfl⟩ : ∃ m, k = m + 1 := ⟨k - 1, by omega⟩
    simp only [day_Of.l1]
    rw [if_neg (by omega), show c - cm y a + cm y a = c by omega]
    split <;> rfl
  | succ t ih =>
    intro a k c ht ha hk h1 h2
    obtain ⟨k, rfl⟩ : ∃ m, k = m + 1 := ⟨k - 1, by omega⟩
    obtain ⟨k', hk'⟩ : ∃ m, k = m + 1 := ⟨k - 1, by omega⟩
    have hd := days_eq k' y ((a : Int) + 1)
    rw [← hk'] at hd
    clear hk'
    have hm := dm_bd y ((a : Int) + 1)
    have hc := cm_bd y a
    simp only [day_Of.l1]
    rw [if_pos (by omega), hd]
    simp only [Option.bind_some]
    rw [w64s _ (by omega) (by omega), w64s _ (by omega) (by omega)]
    have e : cm y (a + 1) = cm y a + dm y ((a : Int) + 1) := rfl
    have := ih (a + 1) k (c + dm y ((a : Int) + 1)) (by omega) (by omega) (by omega) (by omega) (by omega)
    rw [e, show c + dm y ((a : Int) + 1) - (cm y a + dm y ((a : Int) + 1)) = c - cm y a by omega, show ((a + 1 : Nat) : Int) = (a : Int) + 1 by omega] at this
    exact this
theorem Of_l0 (j i : Nat) (hj : j ≤ 500) (hi : i ≤ 12) (a2 : Int) : ∀ (t a k : Nat) (c : Int), j - a = t → a ≤ j → t + 20 < k → -1000 ≤ c - cy a → c - cy a ≤ 1000 →
    day_Of.l0 k c (2000 + (a : Int)) (2000 + (j : Int)) ((i : Int) + 1) a2 = some (if c - cy a + cy j + cm (2000 + (j : Int)) i > 40000 then (0, some 103) else (c - cy a + cy j + cm (2000 + (j : Int)) i, none)) := by
  intro t
  induction t with
  | zero =>
    intro a k c ht ha hk h1 h2
    obtain rfl : a = j := by omega
    obtain ⟨k, rfl⟩ : ∃ m, k = m + 1 := ⟨k - 1, by omega⟩
    have hb := cy_bd a
    simp only [day_Of.l0]
    rw [if_neg (by omega)]
    have e0 : cm (2000 + (a : Int)) 0 = 0 := rfl
    have := Of_l1 (2000 + (a : Int)) i hi a2 i 0 k c (by omega) (by omega) (by omega) (by omega) (by omega)
    rw [e0, Int.sub_zero] at this
    rw [show c - cy a + cy a = c by omega]
    simpa using this
  | succ t ih =>
    intro a k c ht ha hk h1 h2
    obtain ⟨k, rfl⟩ : ∃ m, k = m + 1 := ⟨k - 1, by omega⟩
    have hm := ln_bd (2000 + (a : Int))
    have hc := cy_bd a
    simp only [day_Of.l0]
    rw [if_pos (by omega), long_eq]
    simp only [Option.bind_some]
    rw [w64s _ (by omega) (by omega), w64s _ (by omega) (by omega)]
    have e : cy (a + 1) = cy a + ln (2000 + (a : Int)) := rfl
    have := ih (a + 1) k (c + ln (2000 + (a : Int))) (by omega) (by omega) (by omega) (by omega) (by omega)
    rw [e, show c + ln (2000 + (a : Int)) - (cy a + ln (2000 + (a : Int))) = c - cy a by omega, show (2000 : Int) + ((a + 1 : Nat) : Int) = 2000 + (a : Int) + 1 by omega] at this
    exact this
theorem Of_eq {j i : Nat} {d n : Int} (h : Dt j i d n) (hj : j ≤ 200) (k : Nat) (hk : 250 < k) :
    day_Of.f k (2000 + (j : Int)) ((i : Int) + 1) d = some (if n > 40000 then (0, some 103) else (n, none)) := by
  obtain ⟨hi, d1, d2, hn⟩ := h
  have hb := dm_bd (2000 + (j : Int)) ((i : Int) + 1)
  unfold day_Of.f
  obtain ⟨k, rfl⟩ : ∃ m, k = m + 1 := ⟨k - 1, by omega⟩
  rw [if_neg (by omega), if_neg (by omega), if_neg (by omega), if_neg (by omega), if_neg (by omega), days_eq]
  simp only [Option.bind_some, day_Of.j0]
  rw [if_neg (by simp; omega), w64s _ (by omega) (by omega)]
  have := Of_l0 j i (by omega) (by omega) d j 0 k (d - 1) (by omega) (by omega) (by omega) (by simp [cy]; omega) (by simp [cy]; omega)
  have e0 : cy 0 = 0 := rfl
  rw [e0, Int.sub_zero, show d - 1 + cy j + cm (2000 + (j : Int)) i = n by omega] at this
  simpa using this
/-- A date that may be. -/
def okD (y m d : Int) : Prop := 2000 ≤ y ∧ y ≤ 2200 ∧ 1 ≤ m ∧ m ≤ 12 ∧ 1 ≤ d ∧ d ≤ dm y m
instance (y m d : Int) : Decidable (okD y m d) := by unfold okD; infer_instance
theorem Of_bad (y m d : Int) (h : ¬ okD y m d) (k : Nat) (hk : 2 < k) : day_Of.f k y m d = some (0, some 103) := by
  unfold day_Of.f
  obtain ⟨k', hk'⟩ : ∃ m, k = m + 1 := ⟨k - 1, by omega⟩
  have hd := days_eq k' y m
  have hj : ∀ a b c, day_Of.j0 k true a b c = some (0, some 103) := by intro a b c; rw [hk']; simp [day_Of.j0]
  rw [← hk'] at hd
  clear hk' hk
  by_cases h1 : y < 2000
  · rw [if_pos h1, hj]
  rw [if_neg h1]
  by_cases h2 : y > 2200
  · rw [if_pos h2, hj]
  rw [if_neg h2]
  by_cases h3 : m < 1
  · rw [if_pos h3, hj]
  rw [if_neg h3]
  by_cases h4 : m > 12
  · rw [if_pos h4, hj]
  rw [if_neg h4]
  by_cases h5 : d < 1
  · rw [if_pos h5, hj]
  rw [if_neg h5, hd]
  simp only [Option.bind_some]
  rw [decide_eq_true (show d > dm y m by unfold okD at h; omega), hj]
theorem ok_dt (y m d : Int) (h : okD y m d) : ∃ (j i : Nat), j ≤ 200 ∧ y = 2000 + (j : Int) ∧ m = (i : Int) + 1 ∧ Dt j i d (cy j + cm (2000 + (j : Int)) i + d - 1) := by
  obtain ⟨h1, h2, h3, h4, h5, h6⟩ := h
  have e1 : 2000 + (((y - 2000).toNat : Nat) : Int) = y := by omega
  have e2 : (((m - 1).toNat : Nat) : Int) + 1 = m := by omega
  refine ⟨(y - 2000).toNat, (m - 1).toNat, by omega, e1.symm, e2.symm, ⟨by omega, h5, ?_, rfl⟩⟩
  rw [e1, e2]; exact h6
theorem Weekday_eq (n : Int) : day_Weekday.f n = some ((n + 6) % 7) := by
  unfold day_Weekday.f
  have h1 := Int.tmod_lt_of_pos n (show (0 : Int) < 7 by omega)
  have h2 := Int.lt_tmod_of_pos n (show (0 : Int) < 7 by omega)
  have h3 := Int.tmod_add_mul_tdiv n 7
  rw [w64s (Int.tmod n 7 + 7) (by omega) (by omega), Int.tmod_eq_emod_of_nonneg (show 0 ≤ Int.tmod n 7 + 7 by omega), w64s _ (by omega) (by omega), Int.tmod_eq_emod_of_nonneg (by omega)]
  congr 1
  omega
/-- A bucket. -/
def bk (n : Int) : Int := if n < 30 then 0 else if n < 90 then 1 else if n < 365 then 2 else if n < 1095 then 3 else if n < 3650 then 4 else 5
theorem Bucket_eq (n : Int) (k : Nat) (hk : 10 < k) : day_Bucket.f k n = some (bk n) := by
  have e0 : rd ([30, 90, 365, 1095, 3650] : List Int) 0 = 30 := rfl
  have e1 : rd ([30, 90, 365, 1095, 3650] : List Int) 1 = 90 := rfl
  have e2 : rd ([30, 90, 365, 1095, 3650] : List Int) 2 = 365 := rfl
  have e3 : rd ([30, 90, 365, 1095, 3650] : List Int) 3 = 1095 := rfl
  have e4 : rd ([30, 90, 365, 1095, 3650] : List Int) 4 = 3650 := rfl
  have w0 : wrap64 (0 + 1) = 1 := w64s _ (by omega) (by omega)
  have w1 : wrap64 (1 + 1) = 2 := w64s _ (by omega) (by omega)
  have w2 : wrap64 (2 + 1) = 3 := w64s _ (by omega) (by omega)
  have w3 : wrap64 (3 + 1) = 4 := w64s _ (by omega) (by omega)
  have w4 : wrap64 (4 + 1) = 5 := w64s _ (by omega) (by omega)
  have hl : (([30, 90, 365, 1095, 3650] : List Int).length : Int) = 5 := rfl
  unfold day_Bucket.f bk
  simp only [Option.bind_some]
  rw [hl]
  obtain ⟨k, rfl⟩ : ∃ m, k = m + 1 := ⟨k - 1, by omega⟩
  rw [day_Bucket.l0, if_pos (show (0 : Int) < 5 by omega), if_pos (show (0 : Int) ≤ 0 by omega), hl, if_pos (show (0 : Int) < 5 by omega), e0, w0]
  by_cases h0 : n < 30
  · rw [if_pos h0, if_pos h0]
  rw [if_neg h0, if_neg h0]
  obtain ⟨k, rfl⟩ : ∃ m, k = m + 1 := ⟨k - 1, by omega⟩
  rw [day_Bucket.l0, if_pos (show (1 : Int) < 5 by omega), if_pos (show (0 : Int) ≤ 1 by omega), hl, if_pos (show (1 : Int) < 5 by omega), e1, w1]
  by_cases h1 : n < 90
  · rw [if_pos h1, if_pos h1]
  rw [if_neg h1, if_neg h1]
  obtain ⟨k, rfl⟩ : ∃ m, k = m + 1 := ⟨k - 1, by omega⟩
  rw [day_Bucket.l0, if_pos (show (2 : Int) < 5 by omega), if_pos (show (0 : Int) ≤ 2 by omega), hl, if_pos (show (2 : Int) < 5 by omega), e2, w2]
  by_cases h2 : n < 365
  · rw [if_pos h2, if_pos h2]
  rw [if_neg h2, if_neg h2]
  obtain ⟨k, rfl⟩ : ∃ m, k = m + 1 := ⟨k - 1, by omega⟩
  rw [day_Bucket.l0, if_pos (show (3 : Int) < 5 by omega), if_pos (show (0 : Int) ≤ 3 by omega), hl, if_pos (show (3 : Int) < 5 by omega), e3, w3]
  by_cases h3 : n < 1095
  · rw [if_pos h3, if_pos h3]
  rw [if_neg h3, if_neg h3]
  obtain ⟨k, rfl⟩ : ∃ m, k = m + 1 := ⟨k - 1, by omega⟩
  rw [day_Bucket.l0, if_pos (show (4 : Int) < 5 by omega), if_pos (show (0 : Int) ≤ 4 by omega), hl, if_pos (show (4 : Int) < 5 by omega), e4, w4]
  by_cases h4 : n < 3650
  · rw [if_pos h4, if_pos h4]
  rw [if_neg h4, if_neg h4]
  obtain ⟨k, rfl⟩ : ∃ m, k = m + 1 := ⟨k - 1, by omega⟩
  rw [day_Bucket.l0, if_neg (show ¬ (5 : Int) < 5 by omega)]
theorem Is_none (code : Int) : pledgesee_Is.f none code = some (decide (0 = code)) := by
  unfold pledgesee_Is.f pledgeref_Bare.f pledgesee_Same.f pledgesee_Fault.f pledgeref_None.f pledgeref_SameFault.f
  by_cases h : 0 = code <;> simp [h]
theorem Is_some (c code : Int) (h1 : 101 ≤ c) (h2 : c ≤ 121) : pledgesee_Is.f (some c) code = some (decide (c = code)) := by
  unfold pledgesee_Is.f pledgeref_Bare.f pledgesee_Same.f pledgesee_Fault.f pledgesee_sentinel.f pledgeref_Bare.f pledgeref_SameFault.f
  by_cases h : c = code <;> simp [h, h1, h2] <;> simp [← h, h1, h2]
theorem RLeap_eq (y : Int) : pledgeref1_Leap.f y = some (decide (leap y)) := Leap_eq y
theorem RDays_eq (y : Int) : pledgeref1_Days.f y = some (ln y) := by
  unfold pledgeref1_Days.f ln
  rw [RLeap_eq]
  simp only [Option.bind_some, decide_eq_true_eq]
  split <;> rfl
theorem RLength_eq (y m : Int) : pledgeref1_Length.f y m = some (dm y m) := by
  unfold pledgeref1_Length.f dm
  rw [RLeap_eq]
  simp only [Option.bind_some, decide_eq_true_eq]
  repeat' split
  all_goals rfl
theorem DateAt_l1 (y : Int) (hy : 2000 ≤ y ∧ y ≤ 3000) (i : Nat) (hi : i < 12) (d : Int) (d1 : 1 ≤ d) (d2 : d ≤ dm y ((i : Int) + 1)) : ∀ (t a k : Nat), i - a = t → a ≤ i → t + 2 < k →
    pledgeref1_DateAt.l1 k (cm y i + d - 1 - cm y a) y ((a : Int) + 1) = some (y, (i : Int) + 1, d, 0) := by
  intro t
  have hb := dm_bd y ((i : Int) + 1)
  have hcb := cm_bd y i
  induction t with
  | zero =>
    intro a k ht ha hk
    obtain rfl : a = i := by omega
    obtain ⟨k, rfl⟩ : ∃ m, k = m + 1 := ⟨k - 1, by omega⟩
    have hd := RLength_eq y ((a : Int) + 1)
    simp only [pledgeref1_DateAt.l1]
    rw [hd]
    simp only [Option.bind_some]
    rw [if_neg (by omega)]
    have e : wrap64 (cm y a + d - 1 - cm y a + 1) = d := by rw [w64s _ (by omega) (by omega)]; omega
    rw [e]
  | succ t ih =>
    intro a k ht ha hk
    obtain ⟨k, rfl⟩ : ∃ m, k = m + 1 := ⟨k - 1, by omega⟩
    have hc := cm_le y (a + 1) (i - (a + 1))
    rw [show a + 1 + (i - (a + 1)) = i by omega] at hc
    have ha0 := cm_bd y a
    have hm0 := dm_bd y ((a : Int) + 1)
    have hd := RLength_eq y ((a : Int) + 1)
    simp only [pledgeref1_DateAt.l1]
    rw [hd]
    simp only [Option.bind_some]
    have hx : cm y (a + 1) = cm y a + dm y ((a : Int) + 1) := rfl
    rw [if_pos (by omega), w64s _ (by omega) (by omega), w64s _ (by omega) (by omega)]
    have := ih (a + 1) k (by omega) (by omega) (by omega)
    rw [hx] at this
    rw [show cm y i + d - 1 - cm y a - dm y ((a : Int) + 1) = cm y i + d - 1 - (cm y a + dm y ((a : Int) + 1)) by omega]
    simpa using this
theorem DateAt_l0 {j i : Nat} {d n : Int} (h : Dt j i d n) (hj : j ≤ 500) : ∀ (t a k : Nat), j - a = t → a ≤ j → t + 20 < k →
    pledgeref1_DateAt.l0 k (n - cy a) (2000 + (a : Int)) = some (2000 + (j : Int), (i : Int) + 1, d, 0) := by
  intro t
  have hr := h.rest
  have hln := ln_bd (2000 + (j : Int))
  have hcj := cy_bd j
  induction t with
  | zero =>
    intro a k ht ha hk
    obtain rfl : a = j := by omega
    obtain ⟨k, rfl⟩ : ∃ m, k = m + 1 := ⟨k - 1, by omega⟩
    simp only [pledgeref1_DateAt.l0]
    rw [RDays_eq]
    simp only [Option.bind_some]
    rw [if_neg (by omega)]
    have := DateAt_l1 (2000 + (a : Int)) (by omega) i h.hi d h.d1 h.d2 i 0 k (by omega) (by omega) (by have := h.hi; omega)
    have hn := h.hn
    rw [show n - cy a = cm (2000 + (a : Int)) i + d - 1 - cm (2000 + (a : Int)) 0 by simp only [cm]; omega]
    simpa using this
  | succ t ih =>
    intro a k ht ha hk
    obtain ⟨k, rfl⟩ : ∃ m, k = m + 1 := ⟨k - 1, by omega⟩
    have hc := cy_le (a + 1) (j - (a + 1))
    rw [show a + 1 + (j - (a + 1)) = j by omega] at hc
    have ha0 := cy_bd a
    have hx : cy (a + 1) = cy a + ln (2000 + (a : Int)) := rfl
    have hb := ln_bd (2000 + (a : Int))
    simp only [pledgeref1_DateAt.l0]
    rw [RDays_eq]
    simp only [Option.bind_some]
    rw [if_pos (by omega), w64s _ (by omega) (by omega), w64s _ (by omega) (by omega)]
    have := ih (a + 1) k (by omega) (by omega) (by omega)
    rw [hx] at this
    rw [show n - cy a - ln (2000 + (a : Int)) = n - (cy a + ln (2000 + (a : Int))) by omega, show 2000 + (a : Int) + 1 = 2000 + ((a + 1 : Nat) : Int) by omega]
    exact this
theorem DateAt_eq {j i : Nat} {d n : Int} (h : Dt j i d n) (hn : n ≤ 40000) (k : Nat) (hk : 200 < k) : pledgeref1_DateAt.f k n = some (2000 + (j : Int), (i : Int) + 1, d, 0) := by
  have hr := h.rest
  have hc := cy_bd j
  unfold pledgeref1_DateAt.f
  rw [if_neg (by omega), decide_eq_false (by omega)]
  obtain ⟨k, rfl⟩ : ∃ m, k = m + 1 := ⟨k - 1, by omega⟩
  simp only [pledgeref1_DateAt.j0, Bool.false_eq_true, if_false]
  have := DateAt_l0 h (by omega) j 0 k (by omega) (by omega) (by omega)
  simpa [cy] using this
theorem DateAt_out (n : Int) (h : n < 0 ∨ 40000 < n) (k : Nat) : pledgeref1_DateAt.f (k + 1) n = some (0, 0, 0, 103) := by
  unfold pledgeref1_DateAt.f
  by_cases h1 : n < 0
  · rw [if_pos h1]; simp [pledgeref1_DateAt.j0]
  · rw [if_neg h1, decide_eq_true (by omega)]; simp [pledgeref1_DateAt.j0]
theorem DayOf_l1 (y : Int) (i : Nat) (hi : i ≤ 12) : ∀ (t a k : Nat) (c : Int), i - a = t → a ≤ i → t + 2 < k → -1000000 ≤ c - cm y a → c - cm y a ≤ 1000000 →
    pledgeref1_DayOf.l1 k y ((i : Int) + 1) c ((a : Int) + 1) = some (if c - cm y a + cm y i > 40000 then (0, 103) else (c - cm y a + cm y i, 0)) := by
  intro t
  induction t with
  | zero =>
    intro a k c ht ha hk h1 h2
    obtain rfl : a = i := by omega
    obtain ⟨k, rfl⟩ : ∃ m, k = m + 1 := ⟨k - 1, by omega⟩
    simp only [pledgeref1_DayOf.l1]
    rw [if_neg (by omega), show c - cm y a + cm y a = c by omega]
    split <;> rfl
  | succ t ih =>
    intro a k c ht ha hk h1 h2
    obtain ⟨k, rfl⟩ : ∃ m, k = m + 1 := ⟨k - 1, by omega⟩
    have hd := RLength_eq y ((a : Int) + 1)
    have hm := dm_bd y ((a : Int) + 1)
    have hc := cm_bd y a
    simp only [pledgeref1_DayOf.l1]
    rw [if_pos (by omega), hd]
    simp only [Option.bind_some]
    rw [w64s _ (by omega) (by omega), w64s _ (by omega) (by omega)]
    have e : cm y (a + 1) = cm y a + dm y ((a : Int) + 1) := rfl
    have := ih (a + 1) k (c + dm y ((a : Int) + 1)) (by omega) (by omega) (by omega) (by omega) (by omega)
    rw [e, show c + dm y ((a : Int) + 1) - (cm y a + dm y ((a : Int) + 1)) = c - cm y a by omega, show ((a + 1 : Nat) : Int) = (a : Int) + 1 by omega] at this
    exact this
theorem DayOf_l0 (j i : Nat) (hj : j ≤ 500) (hi : i ≤ 12) : ∀ (t a k : Nat) (c : Int), j - a = t → a ≤ j → t + 20 < k → -1000 ≤ c - cy a → c - cy a ≤ 1000 →
    pledgeref1_DayOf.l0 k (2000 + (j : Int)) ((i : Int) + 1) c (2000 + (a : Int)) = some (if c - cy a + cy j + cm (2000 + (j : Int)) i > 40000 then (0, 103) else (c - cy a + cy j + cm (2000 + (j : Int)) i, 0)) := by
  intro t
  induction t with
  | zero =>
    intro a k c ht ha hk h1 h2
    obtain rfl : a = j := by omega
    obtain ⟨k, rfl⟩ : ∃ m, k = m + 1 := ⟨k - 1, by omega⟩
    have hb := cy_bd a
    simp only [pledgeref1_DayOf.l0]
    rw [if_neg (by omega)]
    have e0 : cm (2000 + (a : Int)) 0 = 0 := rfl
    have := DayOf_l1 (2000 + (a : Int)) i hi i 0 k c (by omega) (by omega) (by omega) (by omega) (by omega)
    rw [e0, Int.sub_zero] at this
    rw [show c - cy a + cy a = c by omega]
    simpa using this
  | succ t ih =>
    intro a k c ht ha hk h1 h2
    obtain ⟨k, rfl⟩ : ∃ m, k = m + 1 := ⟨k - 1, by omega⟩
    have hm := ln_bd (2000 + (a : Int))
    have hc := cy_bd a
    simp only [pledgeref1_DayOf.l0]
    rw [if_pos (by omega), RDays_eq]
    simp only [Option.bind_some]
    rw [w64s _ (by omega) (by omega), w64s _ (by omega) (by omega)]
    have e : cy (a + 1) = cy a + ln (2000 + (a : Int)) := rfl
    have := ih (a + 1) k (c + ln (2000 + (a : Int))) (by omega) (by omega) (by omega) (by omega) (by omega)
    rw [e, show c + ln (2000 + (a : Int)) - (cy a + ln (2000 + (a : Int))) = c - cy a by omega, show (2000 : Int) + ((a + 1 : Nat) : Int) = 2000 + (a : Int) + 1 by omega] at this
    exact this
theorem DayOf_eq {j i : Nat} {d n : Int} (h : Dt j i d n) (hj : j ≤ 200) (k : Nat) (hk : 250 < k) :
    pledgeref1_DayOf.f k (2000 + (j : Int)) ((i : Int) + 1) d = some (if n > 40000 then (0, 103) else (n, 0)) := by
  obtain ⟨hi, d1, d2, hn⟩ := h
  have hb := dm_bd (2000 + (j : Int)) ((i : Int) + 1)
  unfold pledgeref1_DayOf.f
  obtain ⟨k, rfl⟩ : ∃ m, k = m + 1 := ⟨k - 1, by omega⟩
  rw [if_neg (by omega), if_neg (by omega), if_neg (by omega), if_neg (by omega), if_neg (by omega), RLength_eq]
  simp only [Option.bind_some, pledgeref1_DayOf.j0]
  rw [if_neg (by simp; omega), w64s _ (by omega) (by omega)]
  have := DayOf_l0 j i (by omega) (by omega) j 0 k (d - 1) (by omega) (by omega) (by omega) (by simp [cy]; omega) (by simp [cy]; omega)
  have e0 : cy 0 = 0 := rfl
  rw [e0, Int.sub_zero, show d - 1 + cy j + cm (2000 + (j : Int)) i = n by omega] at this
  simpa using this
theorem DayOf_bad (y m d : Int) (h : ¬ okD y m d) (k : Nat) (hk : 2 < k) : pledgeref1_DayOf.f k y m d = some (0, 103) := by
  unfold pledgeref1_DayOf.f
  obtain ⟨k', hk'⟩ : ∃ m, k = m + 1 := ⟨k - 1, by omega⟩
  have hd := RLength_eq y m
  have hj : ∀ a b c, pledgeref1_DayOf.j0 k a b c true = some (0, 103) := by intro a b c; rw [hk']; simp [pledgeref1_DayOf.j0]
  clear hk' hk
  by_cases h1 : y < 2000
  · rw [if_pos h1, hj]
  rw [if_neg h1]
  by_cases h2 : y > 2200
  · rw [if_pos h2, hj]
  rw [if_neg h2]
  by_cases h3 : m < 1
  · rw [if_pos h3, hj]
  rw [if_neg h3]
  by_cases h4 : m > 12
  · rw [if_pos h4, hj]
  rw [if_neg h4]
  by_cases h5 : d < 1
  · rw [if_pos h5, hj]
  rw [if_neg h5, hd]
  simp only [Option.bind_some]
  rw [decide_eq_true (show d > dm y m by unfold okD at h; omega), hj]
theorem RWeekday_eq (n : Int) : pledgeref1_Weekday.f n = some ((n + 6) % 7) := by
  unfold pledgeref1_Weekday.f
  have h1 := Int.tmod_lt_of_pos n (show (0 : Int) < 7 by omega)
  have h2 := Int.lt_tmod_of_pos n (show (0 : Int) < 7 by omega)
  have h3 := Int.tmod_add_mul_tdiv n 7
  rw [w64s (Int.tmod n 7 + 7) (by omega) (by omega), w64s _ (by omega) (by omega), Int.tmod_eq_emod_of_nonneg (by omega)]
  congr 1
  omega
theorem RBucket_eq (n : Int) : pledgeref1_Bucket.f n = some (bk n) := by
  unfold pledgeref1_Bucket.f bk
  repeat' split
  all_goals rfl
/-- An answer of the program's and one of the reference's: the same number, and the same fault. -/
def Same1 (a : Int × Option Int) (b : Int × Int) : Prop := a.1 = b.1 ∧ pledgesee_Is.f a.2 b.2 = some true
theorem same_none (n : Int) : Same1 (n, none) (n, 0) := ⟨rfl, by rw [Is_none]; rfl⟩
theorem is_103 : pledgesee_Is.f (some 103) 103 = some true := by rw [Is_some 103 103 (by omega) (by omega)]; rfl
theorem both_of (y m d : Int) (k : Nat) (hk : 300 < k) : ∃ a b, day_Of.f k y m d = some a ∧ pledgeref1_DayOf.f k y m d = some b ∧ Same1 a b := by
  by_cases h : okD y m d
  · obtain ⟨j, i, hj, rfl, rfl, hd⟩ := ok_dt y m d h
    generalize cy j + cm (2000 + (j : Int)) i + d - 1 = n at hd
    refine ⟨_, _, Of_eq hd hj k (by omega), DayOf_eq hd hj k (by omega), ?_⟩
    by_cases hn : n > 40000
    · rw [if_pos hn, if_pos hn]; exact ⟨rfl, is_103⟩
    · rw [if_neg hn, if_neg hn]; exact same_none n
  · exact ⟨_, _, Of_bad y m d h k (by omega), DayOf_bad y m d h k (by omega), rfl, is_103⟩
theorem both_at (n : Int) (k : Nat) (hk : 300 < k) : ∃ a b, day_At.f k n = some a ∧ pledgeref1_DateAt.f k n = some b ∧ a.1 = b.1 ∧ a.2.1 = b.2.1 ∧ a.2.2.1 = b.2.2.1 ∧ pledgesee_Is.f a.2.2.2 b.2.2.2 = some true := by
  by_cases h : n < 0 ∨ 40000 < n
  · obtain ⟨k', hk'⟩ : ∃ m, k = m + 1 := ⟨k - 1, by omega⟩
    have e1 := At_out n h k'
    have e2 := DateAt_out n h k'
    rw [← hk'] at e1 e2
    exact ⟨_, _, e1, e2, rfl, rfl, rfl, is_103⟩
  · obtain ⟨z, rfl⟩ := Int.eq_ofNat_of_zero_le (show 0 ≤ n by omega)
    obtain ⟨j, i, d, hd⟩ := Dt.ex z
    exact ⟨_, _, At_eq hd (by omega) k (by omega), DateAt_eq hd (by omega) k (by omega), rfl, rfl, rfl, by rw [Is_none]; rfl⟩
theorem left_end (k : Nat) (e t : Int) (a : Int × Bool) : pledgelaw4_DaySays.j0 (k + 1) e t true a.1 a.2 a.1 a.2 false = some true := by
  simp only [pledgelaw4_DaySays.j0]
  rw [if_neg (by simp)]
  repeat' split
  all_goals simp_all
end Go.Proofs.YtobgpafdebiphaaDoor.PrDaySays
namespace Go.Proofs.YtobgpafdebiphaaDoor.Pr
open Go.RowKit Go.Proofs.YtobgpafdebiphaaDoor.EDaySays Go.Proofs.YtobgpafdebiphaaDoor.PrDaySays
theorem DaySays : pledgelaw4_DaySays.Pure := by
  intro y m d n e t _ _ _ _ _ _
  obtain ⟨k, hk⟩ : ∃ k : Nat, 400 < k := ⟨401, by omega⟩
  obtain ⟨k', hk'⟩ : ∃ m, k = m + 1 := ⟨k - 1, by omega⟩
  refine ⟨k, ?_⟩
  unfold pledgelaw4_DaySays.f
  rw [first4_eq k (by omega)]
  simp only [Option.bind_some, if_true]
  obtain ⟨a, b, h1, h2, h3, h4⟩ := both_of y m d k (by omega)
  obtain ⟨p, q, g1, g2, g3, g4, g5, g6⟩ := both_at n k (by omega)
  have hl : ∃ l, day_Left.f e t = some l ∧ pledgeref1_LeftTo.f e t = some l := by
    have : pledgeref1_LeftTo.f e t = day_Left.f e t := rfl
    rw [this]
    unfold day_Left.f
    repeat' split
    all_goals exact ⟨_, rfl, rfl⟩
  obtain ⟨l, l1, l2⟩ := hl
  have hj := left_end k' e t l
  rw [← hk'] at hj
  rw [h1, h2, g1, g2, l1, l2]
  simp only [Option.bind_some]
  rw [if_pos h3, h4]
  simp only [Option.bind_some, if_true]
  rw [if_pos g3, if_pos g4, if_pos g5, g6]
  simp only [Option.bind_some, if_true]
  rw [Leap_eq, RLeap_eq]
  simp only [Option.bind_some, bne_self_eq_false, Bool.false_eq_true, if_false]
  rw [Weekday_eq, RWeekday_eq]
  simp only [Option.bind_some, if_true]
  rw [Bucket_eq n k (by omega), RBucket_eq]
  simp only [Option.bind_some, bne_self_eq_false]
  exact hj
end Go.Proofs.YtobgpafdebiphaaDoor.Pr
