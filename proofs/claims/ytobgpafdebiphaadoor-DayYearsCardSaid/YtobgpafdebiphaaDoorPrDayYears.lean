/- Years have 365 days, and 366 where they leap; each date is there just once: the pure statement of DayYears, for all numbers. Conditions: none beyond the statement's own. -/
import Derived.Test.YtobgpafdebiphaaDoorEDayYearsx
import Derived.Test.YtobgpafdebiphaaDoorOpen
namespace Go.Proofs.YtobgpafdebiphaaDoor.PrDayYears
open Go.RowKit Go.Proofs.YtobgpafdebiphaaDoor.EDayYears Go.Proofs.YtobgpafdebiphaaDoorW.PrintWords Go.Proofs.YtobgpafdebiphaaDoorW.PrintLast Go.Proofs.YtobgpafdebiphaaDoorW.PrintMore Go.Proofs.YtobgpafdebiphaaDoorW.PrintOpen
set_option linter.unusedSimpArgs false
set_option linter.unusedVariables false
theorem w64 (x : Int) (h1 : -9223372036854775808 ≤ x) (h2 : x ≤ 9223372036854775807) : wrap64 x = x := by unfold wrap64; omega
theorem w64s (x : Int) (h1 : -1000000000 ≤ x) (h2 : x ≤ 1000000000) : wrap64 x = x := by unfold wrap64; omega
theorem wu64 (n : Int) : IntKind.u64.wrap n = n % 18446744073709551616 := by simp [IntKind.wrap, IntKind.bits, IntKind.signed]
theorem rd_nat (l : List Int) (i : Nat) : rd l (i : Int) = l.getD i 0 := by unfold rd; rw [Int.toNat_natCast]
theorem rd_mem (l : List Int) (i : Nat) (h : i < l.length) : rd l (i : Int) ∈ l := by
  rw [rd_nat, List.getD_eq_getElem?_getD, List.getElem?_eq_getElem h]; exact List.getElem_mem h
theorem take_snoc_sum (l : List Int) (i : Nat) (h : i < l.length) : (l.take (i + 1)).sum = (l.take i).sum + rd l (i : Int) := by
  rw [List.take_succ_eq_append_getElem h, List.sum_append, rd_nat, List.getD_eq_getElem?_getD, List.getElem?_eq_getElem h]; simp
/-- A year that leaps. -/
def leap (y : Int) : Prop := y % 4 = 0 ∧ (y % 100 ≠ 0 ∨ y % 400 = 0)
instance (y : Int) : Decidable (leap y) := by unfold leap; infer_instance
theorem tmod_zero (a b : Int) : Int.tmod a b = 0 ↔ a % b = 0 := by rw [← Int.dvd_iff_tmod_eq_zero, Int.dvd_iff_emod_eq_zero]
theorem leap_iff (y : Int) : leap y ↔ y % 4 = 0 ∧ (y % 100 ≠ 0 ∨ y % 400 = 0) := Iff.rfl
theorem Leap_eq (y : Int) : day_Leap.f y = some (decide (leap y)) := by
  unfold day_Leap.f
  have h1 := tmod_zero y 4
  have h2 := tmod_zero y 100
  have h3 := tmod_zero y 400
  have h4 := leap_iff y
  by_cases c1 : Int.tmod y 4 = 0
  · rw [if_pos c1]
    have c1' := h1.1 c1
    by_cases c2 : Int.tmod y 100 = 0
    · have c2' := h2.1 c2
      rw [if_pos c2]
      congr 1
      rw [Bool.eq_iff_iff, beq_iff_eq, decide_eq_true_eq, h3, h4]
      omega
    · have c2' : ¬ y % 100 = 0 := fun h => c2 (h2.2 h)
      rw [if_neg c2, decide_eq_true (h4.2 ⟨c1', .inl c2'⟩)]
  · have c1' : ¬ y % 4 = 0 := fun h => c1 (h1.2 h)
    rw [if_neg c1, decide_eq_false (fun h => c1' (h4.1 h).1)]
/-- A year's days; a month's days. -/
def ln (y : Int) : Int := if leap y then 366 else 365
def dm (y m : Int) : Int := if m = 2 then (if leap y then 29 else 28) else if m = 4 then 30 else if m = 6 then 30 else if m = 9 then 30 else if m = 11 then 30 else 31
theorem long_eq (y : Int) : day_long.f y = some (ln y) := by
  unfold day_long.f ln
  rw [Leap_eq]
  simp only [Option.bind_some, decide_eq_true_eq]
  split <;> rfl
theorem days_eq (k : Nat) (y m : Int) : day_days.f (k + 1) y m = some (dm y m) := by
  unfold day_days.f dm
  rw [Leap_eq]
  simp only [Option.bind_some]
  by_cases h : m = 2
  · rw [if_pos h, if_pos h]
    simp only [day_days.j0, decide_eq_true_eq, if_pos h]
    split <;> rfl
  · rw [if_neg h, if_neg h]
    simp only [day_days.j0, Bool.false_eq_true, if_false, if_neg h]
    repeat' split
    all_goals rfl
theorem ln_bd (y : Int) : 365 ≤ ln y ∧ ln y ≤ 366 := by unfold ln; split <;> omega
theorem dm_bd (y m : Int) : 28 ≤ dm y m ∧ dm y m ≤ 31 := by unfold dm; repeat' split
                                                            all_goals omega
/-- The days before a year; the days of a year before a month. -/
def cy : Nat → Int
  | 0 => 0
  | j + 1 => cy j + ln (2000 + (j : Int))
def cm (y : Int) : Nat → Int
  | 0 => 0
  | i + 1 => cm y i + dm y ((i : Int) + 1)
theorem cy_bd : ∀ j : Nat, 365 * (j : Int) ≤ cy j ∧ cy j ≤ 366 * (j : Int)
  | 0 => by simp [cy]
  | j + 1 => by
    have h := cy_bd j
    have h2 := ln_bd (2000 + (j : Int))
    simp only [cy]
    omega
theorem cy_le (a : Nat) : ∀ b : Nat, cy a ≤ cy (a + b)
  | 0 => by simp
  | b + 1 => by
    have h := cy_le a b
    have h2 := ln_bd (2000 + ((a + b : Nat) : Int))
    rw [← Nat.add_assoc]
    simp only [cy]
    omega
theorem cm_bd (y : Int) : ∀ j : Nat, 28 * (j : Int) ≤ cm y j ∧ cm y j ≤ 31 * (j : Int)
  | 0 => by simp [cm]
  | j + 1 => by
    have h := cm_bd y j
    have h2 := dm_bd y ((j : Int) + 1)
    simp only [cm]
    omega
theorem cm_le (y : Int) (a : Nat) : ∀ b : Nat, cm y a ≤ cm y (a + b)
  | 0 => by simp
  | b + 1 => by
    have h := cm_le y a b
    have h2 := dm_bd y (((a + b : Nat) : Int) + 1)
    rw [← Nat.add_assoc]
    simp only [cm]
    omega
theorem cm_all (y : Int) : cm y 12 = ln y := by
  simp only [cm, ln]
  by_cases h : leap y <;> simp [dm, h]
/-- A date that is there: its number of the year, of the month, its day, and which day it is. -/
structure Dt (j i : Nat) (d n : Int) : Prop where
  hi : i < 12
  d1 : 1 ≤ d
  d2 : d ≤ dm (2000 + (j : Int)) ((i : Int) + 1)
  hn : n = cy j + cm (2000 + (j : Int)) i + d - 1
theorem Dt.rest {j i : Nat} {d n : Int} (h : Dt j i d n) : 0 ≤ n - cy j ∧ n - cy j < ln (2000 + (j : Int)) := by
  obtain ⟨hi, d1, d2, hn⟩ := h
  have h1 := cm_bd (2000 + (j : Int)) i
  have h2 := cm_le (2000 + (j : Int)) (i + 1) (11 - i)
  rw [show i + 1 + (11 - i) = 12 by omega, cm_all] at h2
  simp only [cm] at h2
  omega
theorem Dt.ex : ∀ n : Nat, ∃ j i d, Dt j i d (n : Int)
  | 0 => ⟨0, 0, 1, by omega, by omega, by have := dm_bd 2000 1; simp; omega, by simp [cy, cm]⟩
  | n + 1 => by
    obtain ⟨j, i, d, hi, d1, d2, hn⟩ := Dt.ex n
    by_cases h : d < dm (2000 + (j : Int)) ((i : Int) + 1)
    · exact ⟨j, i, d + 1, hi, by omega, by omega, by omega⟩
    · by_cases h2 : i < 11
      · refine ⟨j, i + 1, 1, by omega, by omega, ?_, ?_⟩
        · have := dm_bd (2000 + (j : Int)) (((i + 1 : Nat) : Int) + 1); omega
        · simp only [cm]; omega
      · obtain rfl : i = 11 := by omega
        refine ⟨j + 1, 0, 1, by omega, by omega, ?_, ?_⟩
        · have := dm_bd (2000 + ((j + 1 : Nat) : Int)) (((0 : Nat) : Int) + 1); omega
        · have h3 := cm_all (2000 + (j : Int))
          have h4 : cm (2000 + (j : Int)) 12 = cm (2000 + (j : Int)) 11 + dm (2000 + (j : Int)) (((11 : Nat) : Int) + 1) := rfl
          have h5 : cy (j + 1) = cy j + ln (2000 + (j : Int)) := rfl
          have h6 : cm (2000 + ((j + 1 : Nat) : Int)) 0 = 0 := rfl
          omega
theorem At_l1 (y : Int) (hy : 2000 ≤ y ∧ y ≤ 3000) (i : Nat) (hi : i < 12) (d : Int) (d1 : 1 ≤ d) (d2 : d ≤ dm y ((i : Int) + 1)) : ∀ (t a k : Nat), i - a = t → a ≤ i → t + 2 < k →
    day_At.l1 k (cm y i + d - 1 - cm y a) y ((a : Int) + 1) 1 = some (y, (i : Int) + 1, d, none) := by
  intro t
  have hb := dm_bd y ((i : Int) + 1)
  have hcb := cm_bd y i
  induction t with
  | zero =>
    intro a k ht ha hk
    obtain rfl : a = i := by omega
    obtain ⟨k, rfl⟩ : ∃ m, k = m + 1 := ⟨k - 1, by omega⟩
    obtain ⟨k', hk'⟩ : ∃ m, k = m + 1 := ⟨k - 1, by omega⟩
    have hd := days_eq k' y ((a : Int) + 1)
    rw [← hk'] at hd
    clear hk'
    simp only [day_At.l1]
    rw [hd]
    simp only [Option.bind_some]
    rw [if_neg (by omega)]
    have e : wrap64 (1 + (cm y a + d - 1 - cm y a)) = d := by rw [w64s _ (by omega) (by omega)]; omega
    rw [e]
  | succ t ih =>
    intro a k ht ha hk
    obtain ⟨k, rfl⟩ : ∃ m, k = m + 1 := ⟨k - 1, by omega⟩
    obtain ⟨k', hk'⟩ : ∃ m, k = m + 1 := ⟨k - 1, by omega⟩
    have hc := cm_le y (a + 1) (i - (a + 1))
    rw [show a + 1 + (i - (a + 1)) = i by omega] at hc
    have ha0 := cm_bd y a
    have hm0 := dm_bd y ((a : Int) + 1)
    have hd := days_eq k' y ((a : Int) + 1)
    rw [← hk'] at hd
    simp only [day_At.l1]
    rw [hd]
    simp only [Option.bind_some]
    have hx : cm y (a + 1) = cm y a + dm y ((a : Int) + 1) := rfl
    rw [if_pos (by omega), w64s _ (by omega) (by omega), w64s _ (by omega) (by omega)]
    have := ih (a + 1) k (by omega) (by omega) (by omega)
    rw [hx] at this
    rw [show cm y i + d - 1 - cm y a - dm y ((a : Int) + 1) = cm y i + d - 1 - (cm y a + dm y ((a : Int) + 1)) by omega]
    simpa using this
theorem At_l0 {j i : Nat} {d n : Int} (h : Dt j i d n) (hj : j ≤ 500) : ∀ (t a k : Nat), j - a = t → a ≤ j → t + 20 < k →
    day_At.l0 k (n - cy a) (2000 + (a : Int)) 1 1 = some (2000 + (j : Int), (i : Int) + 1, d, none) := by
  intro t
  have hr := h.rest
  have hln := ln_bd (2000 + (j : Int))
  have hcj := cy_bd j
  induction t with
  | zero =>
    intro a k ht ha hk
    obtain rfl : a = j := by omega
    obtain ⟨k, rfl⟩ : ∃ m, k = m + 1 := ⟨k - 1, by omega⟩
    simp only [day_At.l0]
    rw [long_eq]
    simp only [Option.bind_some]
    rw [if_neg (by omega)]
    have := At_l1 (2000 + (a : Int)) (by omega) i h.hi d h.d1 h.d2 i 0 k (by omega) (by omega) (by have := h.hi; omega)
    have hn := h.hn
    rw [show n - cy a = cm (2000 + (a : Int)) i + d - 1 - cm (2000 + (a : Int)) 0 by simp only [cm]; omega]
    simpa using this
  | succ t ih =>
    intro a k ht ha hk
    obtain ⟨k, rfl⟩ : ∃ m, k = m + 1 := ⟨k - 1, by omega⟩
    have hc := cy_le (a + 1) (j - (a + 1))
    rw [show a + 1 + (j - (a + 1)) = j by omega] at hc
    have ha0 := cy_bd a
    have hx : cy (a + 1) = cy a + ln (2000 + (a : Int)) := rfl
    have hb := ln_bd (2000 + (a : Int))
    simp only [day_At.l0]
    rw [long_eq]
    simp only [Option.bind_some]
    rw [if_pos (by omega), w64s _ (by omega) (by omega), w64s _ (by omega) (by omega)]
    have := ih (a + 1) k (by omega) (by omega) (by omega)
    rw [hx] at this
    rw [show n - cy a - ln (2000 + (a : Int)) = n - (cy a + ln (2000 + (a : Int))) by omega, show 2000 + (a : Int) + 1 = 2000 + ((a + 1 : Nat) : Int) by omega]
    exact this
theorem At_eq {j i : Nat} {d n : Int} (h : Dt j i d n) (hn : n ≤ 40000) (k : Nat) (hk : 200 < k) : day_At.f k n = some (2000 + (j : Int), (i : Int) + 1, d, none) := by
  have hr := h.rest
  have hc := cy_bd j
  unfold day_At.f
  rw [if_neg (by omega), decide_eq_false (by omega)]
  obtain ⟨k, rfl⟩ : ∃ m, k = m + 1 := ⟨k - 1, by omega⟩
  simp only [day_At.j0, Bool.false_eq_true, if_false]
  have := At_l0 h (by omega) j 0 k (by omega) (by omega) (by omega)
  simpa [cy] using this
theorem At_out (n : Int) (h : n < 0 ∨ 40000 < n) (k : Nat) : day_At.f (k + 1) n = some (0, 0, 0, some 103) := by
  unfold day_At.f
  by_cases h1 : n < 0
  · rw [if_pos h1]; simp [day_At.j0]
  · rw [if_neg h1, decide_eq_true (by omega)]; simp [day_At.j0]
theorem Dt.uniq {j i : Nat} {d n : Int} (h : Dt j i d n) {j' i' : Nat} {d' : Int} (h' : Dt j' i' d' n) (hn : n ≤ 40000) : j = j' ∧ i = i' ∧ d = d' := by
  have e1 := At_eq h hn 201 (by omega)
  have e2 := At_eq h' hn 201 (by omega)
  rw [e1] at e2
  simp only [Option.some.injEq, Prod.mk.injEq] at e2
  omega
theorem first4_eq (k : Nat) (hk : 200 < k) : pledgelaw4_first.f k = some true := by
  unfold pledgelaw4_first.f
  have h : Dt 0 1 29 59 := ⟨by omega, by omega, by decide, by decide⟩
  rw [At_eq h (by omega) k hk]
  rfl
theorem number_eq (v b : Int) (h0 : 0 < b) (h1 : b ≤ 1000000000) : pledgeworld_Number.f v b = some (v % b) := by
  unfold pledgeworld_Number.f
  rw [if_neg (by omega)]
  have h1 := Int.tmod_lt_of_pos v h0
  have h2 := Int.lt_tmod_of_pos v h0
  have h3 := Int.emod_nonneg v (show b ≠ 0 by omega)
  have h4 := Int.emod_lt_of_pos v h0
  have h5 := Int.emod_add_mul_ediv v b
  have h6 := Int.tmod_add_mul_tdiv v b
  have key : ∃ c : Int, Int.tmod v b = v % b + b * c := ⟨v / b - Int.tdiv v b, by rw [Int.mul_sub]; omega⟩
  obtain ⟨c, hc⟩ := key
  have hcc : c = 0 ∨ c = -1 := by
    have a1 : c < 1 := by
      apply Decidable.byContradiction; intro hx
      have : b * 1 ≤ b * c := Int.mul_le_mul_of_nonneg_left (by omega) (by omega)
      omega
    have a2 : -2 < c := by
      apply Decidable.byContradiction; intro hx
      have : b * c ≤ b * (-2) := Int.mul_le_mul_of_nonneg_left (by omega) (by omega)
      omega
    omega
  rcases hcc with rfl | rfl
  · rw [if_neg (by omega)]; congr 1; omega
  · rw [if_pos (by omega), w64s _ (by omega) (by omega)]; congr 1; omega
theorem Of_l1 (y : Int) (i : Nat) (hi : i ≤ 12) (a2 : Int) : ∀ (t a k : Nat) (c : Int), i - a = t → a ≤ i → t + 2 < k → -1000000 ≤ c - cm y a → c - cm y a ≤ 1000000 →
    day_Of.l1 k c ((a : Int) + 1) y ((i : Int) + 1) a2 = some (if c - cm y a + cm y i > 40000 then (0, some 103) else (c - cm y a + cm y i, none)) := by
  intro t
  induction t with
  | zero =>
    intro a k c ht ha hk h1 h2
    obtain rfl : a = i := by omega
    obtain ⟨k, rfl⟩ : ∃ m, k = m + 1 := ⟨k - 1, by omega⟩
    simp only [day_Of.l1]
    rw [if_neg (by omega), show c - cm y a + cm y a = c by omega]
    split <;> rfl
  | succ t ih =>
    intro a k c ht ha hk h1 h2
    obtain ⟨k, rfl⟩ : ∃ m, k = m + 1 := ⟨k - 1, by omega⟩
    obtain ⟨k', hk'⟩ : ∃ m, k = m + 1 := ⟨k - 1, by omega⟩
    have hd := days_eq k' y ((a : Int) + 1)
    rw [← hk'] at hd
    clear hk'
    have hm := dm_bd y ((a : Int) + 1)
    have hc := cm_bd y a
    simp only [day_Of.l1]
    rw [if_pos (by omega), hd]
    simp only [Option.bind_some]
    rw [w64s _ (by omega) (by omega), w64s _ (by omega) (by omega)]
    have e : cm y (a + 1) = cm y a + dm y ((a : Int) + 1) := rfl
    have := ih (a + 1) k (c + dm y ((a : Int) + 1)) (by omega) (by omega) (by omega) (by omega) (by omega)
    rw [e, show c + dm y ((a : Int) + 1) - (cm y a + dm y ((a : Int) + 1)) = c - cm y a by omega, show ((a + 1 : Nat) : Int) = (a : Int) + 1 by omega] at this
    exact this
theorem Of_l0 (j i : Nat) (hj : j ≤ 500) (hi : i ≤ 12) (a2 : Int) : ∀ (t a k : Nat) (c : Int), j - a = t → a ≤ j → t + 20 < k → -1000 ≤ c - cy a → c - cy a ≤ 1000 →
    day_Of.l0 k c (2000 + (a : Int)) (2000 + (j : Int)) ((i : Int) + 1) a2 = some (if c - cy a + cy j + cm (2000 + (j : Int)) i > 40000 then (0, some 103) else (c - cy a + cy j + cm (2000 + (j : Int)) i, none)) := by
  intro t
  induction t with
  | zero =>
    intro a k c ht ha hk h1 h2
    obtain rfl : a = j := by omega
    obtain ⟨k, rfl⟩ : ∃ m, k = m + 1 := ⟨k - 1, by omega⟩
    have hb := cy_bd a
    simp only [day_Of.l0]
    rw [if_neg (by omega)]
    have e0 : cm (2000 + (a : Int)) 0 = 0 := rfl
    have := Of_l1 (2000 + (a : Int)) i hi a2 i 0 k c (by omega) (by omega) (by omega) (by omega) (by omega)
    rw [e0, Int.sub_zero] at this
    rw [show c - cy a + cy a = c by omega]
    simpa using this
  | succ t ih =>
    intro a k c ht ha hk h1 h2
    obtain ⟨k, rfl⟩ : ∃ m, k = m + 1 := ⟨k - 1, by omega⟩
    have hm := ln_bd (2000 + (a : Int))
    have hc := cy_bd a
    simp only [day_Of.l0]
    rw [if_pos (by omega), long_eq]
    simp only [Option.bind_some]
    rw [w64s _ (by omega) (by omega), w64s _ (by omega) (by omega)]
    have e : cy (a + 1) = cy a + ln (2000 + (a : Int)) := rfl
    have := ih (a + 1) k (c + ln (2000 + (a : Int))) (by omega) (by omega) (by omega) (by omega) (by omega)
    rw [e, show c + ln (2000 + (a : Int)) - (cy a + ln (2000 + (a : Int))) = c - cy a by omega, show (2000 : Int) + ((a + 1 : Nat) : Int) = 2000 + (a : Int) + 1 by omega] at this
    exact this
theorem Of_eq {j i : Nat} {d n : Int} (h : Dt j i d n) (hj : j ≤ 200) (k : Nat) (hk : 250 < k) :
    day_Of.f k (2000 + (j : Int)) ((i : Int) + 1) d = some (if n > 40000 then (0, some 103) else (n, none)) := by
  obtain ⟨hi, d1, d2, hn⟩ := h
  have hb := dm_bd (2000 + (j : Int)) ((i : Int) + 1)
  unfold day_Of.f
  obtain ⟨k, rfl⟩ : ∃ m, k = m + 1 := ⟨k - 1, by omega⟩
  rw [if_neg (by omega), if_neg (by omega), if_neg (by omega), if_neg (by omega), if_neg (by omega), days_eq]
  simp only [Option.bind_some, day_Of.j0]
  rw [if_neg (by simp; omega), w64s _ (by omega) (by omega)]
  have := Of_l0 j i (by omega) (by omega) d j 0 k (d - 1) (by omega) (by omega) (by omega) (by simp [cy]; omega) (by simp [cy]; omega)
  have e0 : cy 0 = 0 := rfl
  rw [e0, Int.sub_zero, show d - 1 + cy j + cm (2000 + (j : Int)) i = n by omega] at this
  simpa using this
/-- A date that may be. -/
def okD (y m d : Int) : Prop := 2000 ≤ y ∧ y ≤ 2200 ∧ 1 ≤ m ∧ m ≤ 12 ∧ 1 ≤ d ∧ d ≤ dm y m
instance (y m d : Int) : Decidable (okD y m d) := by unfold okD; infer_instance
theorem Of_bad (y m d : Int) (h : ¬ okD y m d) (k : Nat) (hk : 2 < k) : day_Of.f k y m d = some (0, some 103) := by
  unfold day_Of.f
  obtain ⟨k', hk'⟩ : ∃ m, k = m + 1 := ⟨k - 1, by omega⟩
  have hd := days_eq k' y m
  have hj : ∀ a b c, day_Of.j0 k true a b c = some (0, some 103) := by intro a b c; rw [hk']; simp [day_Of.j0]
  rw [← hk'] at hd
  clear hk' hk
  by_cases h1 : y < 2000
  · rw [if_pos h1, hj]
  rw [if_neg h1]
  by_cases h2 : y > 2200
  · rw [if_pos h2, hj]
  rw [if_neg h2]
  by_cases h3 : m < 1
  · rw [if_pos h3, hj]
  rw [if_neg h3]
  by_cases h4 : m > 12
  · rw [if_pos h4, hj]
  rw [if_neg h4]
  by_cases h5 : d < 1
  · rw [if_pos h5, hj]
  rw [if_neg h5, hd]
  simp only [Option.bind_some]
  rw [decide_eq_true (show d > dm y m by unfold okD at h; omega), hj]
theorem ok_dt (y m d : Int) (h : okD y m d) : ∃ (j i : Nat), j ≤ 200 ∧ y = 2000 + (j : Int) ∧ m = (i : Int) + 1 ∧ Dt j i d (cy j + cm (2000 + (j : Int)) i + d - 1) := by
  obtain ⟨h1, h2, h3, h4, h5, h6⟩ := h
  have e1 : 2000 + (((y - 2000).toNat : Nat) : Int) = y := by omega
  have e2 : (((m - 1).toNat : Nat) : Int) + 1 = m := by omega
  refine ⟨(y - 2000).toNat, (m - 1).toNat, by omega, e1.symm, e2.symm, ⟨by omega, h5, ?_, rfl⟩⟩
  rw [e1, e2]; exact h6
theorem Is_none (code : Int) : pledgesee_Is.f none code = some (decide (0 = code)) := by
  unfold pledgesee_Is.f pledgeref_Bare.f pledgesee_Same.f pledgesee_Fault.f pledgeref_None.f pledgeref_SameFault.f
  by_cases h : 0 = code <;> simp [h]
theorem Is_some (c code : Int) (h1 : 101 ≤ c) (h2 : c ≤ 121) : pledgesee_Is.f (some c) code = some (decide (c = code)) := by
  unfold pledgesee_Is.f pledgeref_Bare.f pledgesee_Same.f pledgesee_Fault.f pledgesee_sentinel.f pledgeref_Bare.f pledgeref_SameFault.f
  by_cases h : c = code <;> simp [h, h1, h2] <;> simp [← h, h1, h2]
theorem is_103 : pledgesee_Is.f (some 103) 103 = some true := by rw [Is_some 103 103 (by omega) (by omega)]; rfl
theorem j2_eq (k : Nat) (d s e w n : Int) (er : Option Int) (q : Int) (b : Bool) (M : Int) (hM : M = if b = true then 29 else q) (hw : wrap64 (e - s) = w)
    (h : (1 ≤ d ∧ d ≤ M ∧ er = none ∧ s ≤ n ∧ n < e) ∨ (¬ (1 ≤ d ∧ d ≤ M) ∧ er = some 103)) : pledgelaw4_DayYears.j2 (k + 1) d true s e w n er q b = some true := by
  rcases h with ⟨h1, h2, rfl, h3, h4⟩ | ⟨h1, rfl⟩
  · have g3 : ¬ n < s := by omega
    have g4 : ¬ n ≥ e := by omega
    cases b
    · have h2' : d ≤ q := by rw [hM] at h2; simpa using h2
      simp only [pledgelaw4_DayYears.j2]
      simp [h1, h2', g3, hw]
      exact h4
    · have h2' : d ≤ 29 := by rw [hM] at h2; simpa using h2
      simp only [pledgelaw4_DayYears.j2]
      simp [h1, h2', g3, hw]
      exact h4
  · cases b
    · have hq : M = q := by simpa using hM
      subst hq
      simp only [pledgelaw4_DayYears.j2]
      by_cases h2 : 1 ≤ d
      · have h3 : ¬ d ≤ M := fun h => h1 ⟨h2, h⟩
        simp [h2, h3, is_103, hw]
      · simp [h2, is_103, hw]
    · have hq : M = 29 := by simpa using hM
      subst hq
      simp only [pledgelaw4_DayYears.j2]
      by_cases h2 : 1 ≤ d
      · have h3 : ¬ d ≤ 29 := fun h => h1 ⟨h2, h⟩
        simp [h2, h3, is_103, hw]
      · simp [h2, is_103, hw]
def ml : List Int := [0, 31, 28, 31, 30, 31, 30, 31, 31, 30, 31, 30, 31, 0]
/-- A month's days, by the list, and by the rule. -/
theorem most_eq (y m : Int) (h0 : 0 ≤ m) (h1 : m < 14) : (if m = 2 ∧ leap y then 29 else rd ml m) = if 1 ≤ m ∧ m ≤ 12 then dm y m else 0 := by
  have hm : m = 0 ∨ m = 1 ∨ m = 2 ∨ m = 3 ∨ m = 4 ∨ m = 5 ∨ m = 6 ∨ m = 7 ∨ m = 8 ∨ m = 9 ∨ m = 10 ∨ m = 11 ∨ m = 12 ∨ m = 13 := by omega
  rcases hm with rfl | rfl | rfl | rfl | rfl | rfl | rfl | rfl | rfl | rfl | rfl | rfl | rfl | rfl
  all_goals by_cases hl : leap y <;> simp [dm, hl, rd, ml]
theorem cm_mono (y : Int) (a : Nat) : ∀ t : Nat, cm y a ≤ cm y (a + t)
  | 0 => by simp
  | t + 1 => by
    have h := cm_mono y a t
    have h2 := dm_bd y (((a + t : Nat) : Int) + 1)
    have e : cm y (a + (t + 1)) = cm y (a + t) + dm y (((a + t : Nat) : Int) + 1) := rfl
    omega
theorem j1_eq (k : Nat) (hk : 260 < k) (j : Nat) (hj : j < 108) (a b : Int) (w : Int) (hw : w = ln (2000 + (j : Int))) :
    pledgelaw4_DayYears.j1 (k + 1) (2000 + (j : Int)) a b true (cy j) (cy (j + 1)) w = some true := by
  obtain ⟨k', hk'⟩ : ∃ m, k = m + 1 := ⟨k - 1, by omega⟩
  have hJ := fun d s e w n er q b M hM hw h => j2_eq k' d s e w n er q b M hM hw h
  rw [← hk'] at hJ
  clear hk'
  simp only [pledgelaw4_DayYears.j1]
  rw [number_eq _ _ (by omega) (by omega), number_eq _ _ (by omega) (by omega)]
  simp only [Option.bind_some]
  have m0 := Int.emod_nonneg a (show (14 : Int) ≠ 0 by omega)
  have m1 := Int.emod_lt_of_pos a (show (0 : Int) < 14 by omega)
  have d0 := Int.emod_nonneg b (show (33 : Int) ≠ 0 by omega)
  have d1 := Int.emod_lt_of_pos b (show (0 : Int) < 33 by omega)
  generalize a % 14 = m at m0 m1
  generalize b % 33 = d at d0 d1
  have hc0 := cy_bd j
  have hc1 : cy (j + 1) = cy j + ln (2000 + (j : Int)) := rfl
  have hl := ln_bd (2000 + (j : Int))
  have hw2 : wrap64 (cy (j + 1) - cy j) = w := by rw [w64s _ (by omega) (by omega)]; omega
  have hb : (w == 366) = decide (leap (2000 + (j : Int))) := by
    rw [hw]; unfold ln; by_cases h : leap (2000 + (j : Int)) <;> simp [h]
  have key : ∃ n er, day_Of.f k (2000 + (j : Int)) m d = some (n, er) ∧ ((1 ≤ d ∧ d ≤ (if 1 ≤ m ∧ m ≤ 12 then dm (2000 + (j : Int)) m else 0) ∧ er = none ∧ cy j ≤ n ∧ n < cy (j + 1)) ∨ (¬ (1 ≤ d ∧ d ≤ (if 1 ≤ m ∧ m ≤ 12 then dm (2000 + (j : Int)) m else 0)) ∧ er = some 103)) := by
    by_cases h : okD (2000 + (j : Int)) m d
    · obtain ⟨j', i, hj', e1, e2, hd⟩ := ok_dt _ _ _ h
      obtain rfl : j = j' := by omega
      have hr := hd.rest
      have hof := Of_eq hd hj' k (by omega)
      rw [← e2, if_neg (by omega)] at hof
      refine ⟨_, _, hof, .inl ⟨h.2.2.2.2.1, ?_, rfl, by omega, by omega⟩⟩
      rw [if_pos ⟨h.2.2.1, h.2.2.2.1⟩]; exact h.2.2.2.2.2
    · refine ⟨_, _, Of_bad _ _ _ h k (by omega), .inr ⟨fun hh => h ?_, rfl⟩⟩
      by_cases h3 : 1 ≤ m ∧ m ≤ 12
      · rw [if_pos h3] at hh
        exact ⟨by omega, by omega, h3.1, h3.2, hh.1, hh.2⟩
      · rw [if_neg h3] at hh; omega
  obtain ⟨n, er, hof, hcase⟩ := key
  rw [hof]
  simp only [Option.bind_some]
  have hlen : (([0, 31, 28, 31, 30, 31, 30, 31, 31, 30, 31, 30, 31, 0] : List Int).length : Int) = 14 := rfl
  rw [if_pos m0, hlen, if_pos m1]
  have hm := most_eq (2000 + (j : Int)) m m0 m1
  by_cases h2 : m = 2
  · rw [if_pos h2]
    refine hJ d _ _ _ n er _ _ _ ?_ hw2 hcase
    rw [← hm, hb]
    by_cases hh : leap (2000 + (j : Int))
    · rw [if_pos ⟨h2, hh⟩, if_pos (by simp [hh])]
    · rw [if_neg (fun z => hh z.2), if_neg (by simp [hh])]; rfl
  · rw [if_neg h2]
    refine hJ d _ _ _ n er _ _ _ ?_ hw2 hcase
    rw [← hm, if_neg (fun z => h2 z.1), if_neg (by simp)]; rfl
theorem jan (j : Nat) (hj : j < 109) (k : Nat) (hk : 250 < k) : day_Of.f k (2000 + (j : Int)) 1 1 = some (cy j, none) := by
  have hb := dm_bd (2000 + (j : Int)) (((0 : Nat) : Int) + 1)
  have h : Dt j 0 1 (cy j) := ⟨by omega, by omega, by omega, by simp [cm]⟩
  have := Of_eq h (by omega) k hk
  have hc := cy_bd j
  rw [if_neg (by omega)] at this
  simpa using this
end Go.Proofs.YtobgpafdebiphaaDoor.PrDayYears
namespace Go.Proofs.YtobgpafdebiphaaDoor.Pr
open Go.RowKit Go.Proofs.YtobgpafdebiphaaDoor.EDayYears Go.Proofs.YtobgpafdebiphaaDoor.PrDayYears
theorem DayYears : pledgelaw4_DayYears.Pure := by
  intro y m d _ _ _
  obtain ⟨k, hk⟩ : ∃ k : Nat, 400 < k := ⟨401, by omega⟩
  obtain ⟨k', hk'⟩ : ∃ m, k = m + 1 := ⟨k - 1, by omega⟩
  obtain ⟨k2, hk2⟩ : ∃ m, k' = m + 1 := ⟨k' - 1, by omega⟩
  refine ⟨k, ?_⟩
  unfold pledgelaw4_DayYears.f
  rw [first4_eq k (by omega), number_eq _ _ (by omega) (by omega)]
  simp only [Option.bind_some, if_true]
  have y0 := Int.emod_nonneg y (show (108 : Int) ≠ 0 by omega)
  have y1 := Int.emod_lt_of_pos y (show (0 : Int) < 108 by omega)
  obtain ⟨j, hj⟩ := Int.eq_ofNat_of_zero_le y0
  rw [hj] at y1 ⊢
  have e2 : (2000 : Int) + (j : Int) + 1 = 2000 + ((j + 1 : Nat) : Int) := by omega
  rw [w64s (2000 + (j : Int)) (by omega) (by omega), w64s _ (by omega) (by omega), jan j (by omega) k (by omega), e2, jan (j + 1) (by omega) k (by omega)]
  simp only [Option.bind_some, Option.isNone_none, if_true]
  rw [hk']
  simp only [pledgelaw4_DayYears.j0]
  rw [if_neg (by simp), Leap_eq]
  simp only [Option.bind_some, decide_eq_true_eq]
  rw [hk2]
  by_cases h : leap (2000 + (j : Int))
  · rw [if_pos h]; exact j1_eq k2 (by omega) j (by omega) m d 366 (by unfold ln; rw [if_pos h])
  · rw [if_neg h]; exact j1_eq k2 (by omega) j (by omega) m d 365 (by unfold ln; rw [if_neg h])
end Go.Proofs.YtobgpafdebiphaaDoor.Pr
