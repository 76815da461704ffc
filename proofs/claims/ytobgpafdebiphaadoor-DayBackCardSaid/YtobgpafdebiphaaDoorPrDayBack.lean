/- A day's date is that day's; the next day's is behind it, one day of the week on: the pure statement of DayBack, for all numbers. Conditions: none beyond the statement's own. -/
import Derived.Test.YtobgpafdebiphaaDoorEDayBackx
import Derived.Test.YtobgpafdebiphaaDoorOpen
namespace Go.Proofs.YtobgpafdebiphaaDoor.PrDayBack
open Go.RowKit Go.Proofs.YtobgpafdebiphaaDoor.EDayBack Go.Proofs.YtobgpafdebiphaaDoorW.PrintWords Go.Proofs.YtobgpafdebiphaaDoorW.PrintLast Go.Proofs.YtobgpafdebiphaaDoorW.PrintMore Go.Proofs.YtobgpafdebiphaaDoorW.PrintOpen
set_option linter.unusedSimpArgs false
set_option linter.unusedVariables false
theorem w64 (x : Int) (h1 : -9223372036854775808 ≤ x) (h2 : x ≤ 9223372036854775807) : wrap64 x = x := by unfold wrap64; omega
theorem w64s (x : Int) (h1 : -1000000000 ≤ x) (h2 : x ≤ 1000000000) : wrap64 x = x := by unfold wrap64; omega
theorem wu64 (n : Int) : IntKind.u64.wrap n = n % 18446744073709551616 := by simp [IntKind.wrap, IntKind.bits, IntKind.signed]
theorem rd_nat (l : List Int) (i : Nat) : rd l (i : Int) = l.getD i 0 := by unfold rd; rw [Int.toNat_natCast]
theorem rd_mem (l : List Int) (i : Nat) (h : i < l.length) : rd l (i : Int) ∈ l := by
  rw [rd_nat, List.getD_eq_getElem?_getD, List.getElem?_eq_getElem h]; exact List.getElem_mem h
theorem take_snoc_sum (l : List Int) (i : Nat) (h : i < l.length) : (l.take (i + 1)).sum = (l.take i).sum + rd l (i : Int) := by
  rw [List.take_succ_eq_append_getElem h, List.sum_append, rd_nat, List.getD_eq_getElem?_getD, List.getElem?_eq_getElem h]; simp
/-- A year that leaps. -/
def leap (y : Int) : Prop := y % 4 = 0 ∧ (y % 100 ≠ 0 ∨ y % 400 = 0)
instance (y : Int) : Decidable (leap y) := by unfold leap; infer_instance
theorem tmod_zero (a b : Int) : Int.tmod a b = 0 ↔ a % b = 0 := by rw [← Int.dvd_iff_tmod_eq_zero, Int.dvd_iff_emod_eq_zero]
theorem leap_iff (y : Int) : leap y ↔ y % 4 = 0 ∧ (y % 100 ≠ 0 ∨ y % 400 = 0) := Iff.rfl
theorem Leap_eq (y : Int) : day_Leap.f y = some (decide (leap y)) := by
  unfold day_Leap.f
  have h1 := tmod_zero y 4
  have h2 := tmod_zero y 100
  have h3 := tmod_zero y 400
  have h4 := leap_iff y
  by_cases c1 : Int.tmod y 4 = 0
  · rw [if_pos c1]
    have c1' := h1.1 c1
    by_cases c2 : Int.tmod y 100 = 0
    · have c2' := h2.1 c2
      rw [if_pos c2]
      congr 1
      rw [Bool.eq_iff_iff, beq_iff_eq, decide_eq_true_eq, h3, h4]
      omega
    · have c2' : ¬ y % 100 = 0 := fun h => c2 (h2.2 h)
      rw [if_neg c2, decide_eq_true (h4.2 ⟨c1', .inl c2'⟩)]
  · have c1' : ¬ y % 4 = 0 := fun h => c1 (h1.2 h)
    rw [if_neg c1, decide_eq_false (fun h => c1' (h4.1 h).1)]
/-- A year's days; a month's days. -/
def ln (y : Int) : Int := if leap y then 366 else 365
def dm (y m : Int) : Int := if m = 2 then (if leap y then 29 else 28) else if m = 4 then 30 else if m = 6 then 30 else if m = 9 then 30 else if m = 11 then 30 else 31
theorem long_eq (y : Int) : day_long.f y = some (ln y) := by
  unfold day_long.f ln
  rw [Leap_eq]
  simp only [Option.bind_some, decide_eq_true_eq]
  split <;> rfl
theorem days_eq (k : Nat) (y m : Int) : day_days.f (k + 1) y m = some (dm y m) := by
  unfold day_days.f dm
  rw [Leap_eq]
  simp only [Option.bind_some]
  by_cases h : m = 2
  · rw [if_pos h, if_pos h]
    simp only [day_days.j0, decide_eq_true_eq, if_pos h]
    split <;> rfl
  · rw [if_neg h, if_neg h]
    simp only [day_days.j0, Bool.false_eq_true, if_false, if_neg h]
    repeat' split
    all_goals rfl
theorem ln_bd (y : Int) : 365 ≤ ln y ∧ ln y ≤ 366 := by unfold ln; split <;> omega
theorem dm_bd (y m : Int) : 28 ≤ dm y m ∧ dm y m ≤ 31 := by unfold dm; repeat' split
                                                            all_goals omega
/-- The days before a year; the days of a year before a month. -/
def cy : Nat → Int
  | 0 => 0
  | j + 1 => cy j + ln (2000 + (j : Int))
def cm (y : Int) : Nat → Int
  | 0 => 0
  | i + 1 => cm y i + dm y ((i : Int) + 1)
theorem cy_bd : ∀ j : Nat, 365 * (j : Int) ≤ cy j ∧ cy j ≤ 366 * (j : Int)
  | 0 => by simp [cy]
  | j + 1 => by
    have h := cy_bd j
    have h2 := ln_bd (2000 + (j : Int))
    simp only [cy]
    omega
theorem cy_le (a : Nat) : ∀ b : Nat, cy a ≤ cy (a + b)
  | 0 => by simp
  | b + 1 => by
    have h := cy_le a b
    have h2 := ln_bd (2000 + ((a + b : Nat) : Int))
    rw [← Nat.add_assoc]
    simp only [cy]
    omega
theorem cm_bd (y : Int) : ∀ j : Nat, 28 * (j : Int) ≤ cm y j ∧ cm y j ≤ 31 * (j : Int)
  | 0 => by simp [cm]
  | j + 1 => by
    have h := cm_bd y j
    have h2 := dm_bd y ((j : Int) + 1)
    simp only [cm]
    omega
theorem cm_le (y : Int) (a : Nat) : ∀ b : Nat, cm y a ≤ cm y (a + b)
  | 0 => by simp
  | b + 1 => by
    have h := cm_le y a b
    have h2 := dm_bd y (((a + b : Nat) : Int) + 1)
    rw [← Nat.add_assoc]
    simp only [cm]
    omega
theorem cm_all (y : Int) : cm y 12 = ln y := by
  simp only [cm, ln]
  by_cases h : leap y <;> simp [dm, h]
/-- A date that is there: its number of the year, of the month, its day, and which day it is. -/
structure Dt (j i : Nat) (d n : Int) : Prop where
  hi : i < 12
  d1 : 1 ≤ d
  d2 : d ≤ dm (2000 + (j : Int)) ((i : Int) + 1)
  hn : n = cy j + cm (2000 + (j : Int)) i + d - 1
theorem Dt.rest {j i : Nat} {d n : Int} (h : Dt j i d n) : 0 ≤ n - cy j ∧ n - cy j < ln (2000 + (j : Int)) := by
  obtain ⟨hi, d1, d2, hn⟩ := h
  have h1 := cm_bd (2000 + (j : Int)) i
  have h2 := cm_le (2000 + (j : Int)) (i + 1) (11 - i)
  rw [show i + 1 + (11 - i) = 12 by omega, cm_all] at h2
  simp only [cm] at h2
  omega
theorem Dt.ex : ∀ n : Nat, ∃ j i d, Dt j i d (n : Int)
  | 0 => ⟨0, 0, 1, by omega, by omega, by have := dm_bd 2000 1; simp; omega, by simp [cy, cm]⟩
  | n + 1 => by
    obtain ⟨j, i, d, hi, d1, d2, hn⟩ := Dt.ex n
    by_cases h : d < dm (2000 + (j : Int)) ((i : Int) + 1)
    · exact ⟨j, i, d + 1, hi, by omega, by omega, by omega⟩
    · by_cases h2 : i < 11
      · refine ⟨j, i + 1, 1, by omega, by omega, ?_, ?_⟩
        · have := dm_bd (2000 + (j : Int)) (((i + 1 : Nat) : Int) + 1); omega
        · simp only [cm]; omega
      · obtain rfl : i = 11 := by omega
        refine ⟨j + 1, 0, 1, by omega, by omega, ?_, ?_⟩
        · have := dm_bd (2000 + ((j + 1 : Nat) : Int)) (((0 : Nat) : Int) + 1); omega
        · have h3 := cm_all (2000 + (j : Int))
          have h4 : cm (2000 + (j : Int)) 12 = cm (2000 + (j : Int)) 11 + dm (2000 + (j : Int)) (((11 : Nat) : Int) + 1) := rfl
          have h5 : cy (j + 1) = cy j + ln (2000 + (j : Int)) := rfl
          have h6 : cm (2000 + ((j + 1 : Nat) : Int)) 0 = 0 := rfl
          omega
theorem At_l1 (y : Int) (hy : 2000 ≤ y ∧ y ≤ 3000) (i : Nat) (hi : i < 12) (d : Int) (d1 : 1 ≤ d) (d2 : d ≤ dm y ((i : Int) + 1)) : ∀ (t a k : Nat), i - a = t → a ≤ i → t + 2 < k →
    day_At.l1 k (cm y i + d - 1 - cm y a) y ((a : Int) + 1) 1 = some (y, (i : Int) + 1, d, none) := by
  intro t
  have hb := dm_bd y ((i : Int) + 1)
  have hcb := cm_bd y i
  induction t with
  | zero =>
    intro a k ht ha hk
    obtain rfl : a = i := by omega
    obtain ⟨k, rfl⟩ : ∃ m, k = m + 1 := ⟨k - 1, by omega⟩
    obtain ⟨k', hk'⟩ : ∃ m, k = m + 1 := ⟨k - 1, by omega⟩
    have hd := days_eq k' y ((a : Int) + 1)
    rw [← hk'] at hd
    clear hk'
    simp only [day_At.l1]
    rw [hd]
    simp only [Option.bind_some]
    rw [if_neg (by omega)]
    have e : wrap64 (1 + (cm y a + d - 1 - cm y a)) = d := by rw [w64s _ (by omega) (by omega)]; omega
    rw [e]
  | succ t ih =>
    intro a k ht ha hk
    obtain ⟨k, rfl⟩ : ∃ m, k = m + 1 := ⟨k - 1, by omega⟩
    obtain ⟨k', hk'⟩ : ∃ m, k = m + 1 := ⟨k - 1, by omega⟩
    have hc := cm_le y (a + 1) (i - (a + 1))
    rw [show a + 1 + (i - (a + 1)) = i by omega] at hc
    have ha0 := cm_bd y a
    have hm0 := dm_bd y ((a : Int) + 1)
    have hd := days_eq k' y ((a : Int) + 1)
    rw [← hk'] at hd
    simp only [day_At.l1]
    rw [hd]
    simp only [Option.bind_some]
    have hx : cm y (a + 1) = cm y a + dm y ((a : Int) + 1) := rfl
    rw [if_pos (by omega), w64s _ (by omega) (by omega), w64s _ (by omega) (by omega)]
    have := ih (a + 1) k (by omega) (by omega) (by omega)
    rw [hx] at this
    rw [show cm y i + d - 1 - cm y a - dm y ((a : Int) + 1) = cm y i + d - 1 - (cm y a + dm y ((a : Int) + 1)) by omega]
    simpa using this
theorem At_l0 {j i : Nat} {d n : Int} (h : Dt j i d n) (hj : j ≤ 500) : ∀ (t a k : Nat), j - a = t → a ≤ j → t + 20 < k →
    day_At.l0 k (n - cy a) (2000 + (a : Int)) 1 1 = some (2000 + (j : Int), (i : Int) + 1, d, none) := by
  intro t
  have hr := h.rest
  have hln := ln_bd (2000 + (j : Int))
  have hcj := cy_bd j
  induction t with
  | zero =>
    intro a k ht ha hk
    obtain rfl : a = j := by omega
    obtain ⟨k, rfl⟩ : ∃ m, k = m + 1 := ⟨k - 1, by omega⟩
    simp only [day_At.l0]
    rw [long_eq]
    simp only [Option.bind_some]
    rw [if_neg (by omega)]
    have := At_l1 (2000 + (a : Int)) (by omega) i h.hi d h.d1 h.d2 i 0 k (by omega) (by omega) (by have := h.hi; omega)
    have hn := h.hn
    rw [show n - cy a = cm (2000 + (a : Int)) i + d - 1 - cm (2000 + (a : Int)) 0 by simp only [cm]; omega]
    simpa using this
  | succ t ih =>
    intro a k ht ha hk
    obtain ⟨k, rfl⟩ : ∃ m, k = m + 1 := ⟨k - 1, by omega⟩
    have hc := cy_le (a + 1) (j - (a + 1))
    rw [show a + 1 + (j - (a + 1)) = j by omega] at hc
    have ha0 := cy_bd a
    have hx : cy (a + 1) = cy a + ln (2000 + (a : Int)) := rfl
    have hb := ln_bd (2000 + (a : Int))
    simp only [day_At.l0]
    rw [long_eq]
    simp only [Option.bind_some]
    rw [if_pos (by omega), w64s _ (by omega) (by omega), w64s _ (by omega) (by omega)]
    have := ih (a + 1) k (by omega) (by omega) (by omega)
    rw [hx] at this
    rw [show n - cy a - ln (2000 + (a : Int)) = n - (cy a + ln (2000 + (a : Int))) by omega, show 2000 + (a : Int) + 1 = 2000 + ((a + 1 : Nat) : Int) by omega]
    exact this
theorem At_eq {j i : Nat} {d n : Int} (h : Dt j i d n) (hn : n ≤ 40000) (k : Nat) (hk : 200 < k) : day_At.f k n = some (2000 + (j : Int), (i : Int) + 1, d, none) := by
  have hr := h.rest
  have hc := cy_bd j
  unfold day_At.f
  rw [if_neg (by omega), decide_eq_false (by omega)]
  obtain ⟨k, rfl⟩ : ∃ m, k = m + 1 := ⟨k - 1, by omega⟩
  simp only [day_At.j0, Bool.false_eq_true, if_false]
  have := At_l0 h (by omega) j 0 k (by omega) (by omega) (by omega)
  simpa [cy] using this
theorem At_out (n : Int) (h : n < 0 ∨ 40000 < n) (k : Nat) : day_At.f (k + 1) n = some (0, 0, 0, some 103) := by
  unfold day_At.f
  by_cases h1 : n < 0
  · rw [if_pos h1]; simp [day_At.j0]
  · rw [if_neg h1, decide_eq_true (by omega)]; simp [day_At.j0]
theorem Dt.uniq {j i : Nat} {d n : Int} (h : Dt j i d n) {j' i' : Nat} {d' : Int} (h' : Dt j' i' d' n) (hn : n ≤ 40000) : j = j' ∧ i = i' ∧ d = d' := by
  have e1 := At_eq h hn 201 (by omega)
  have e2 := At_eq h' hn 201 (by omega)
  rw [e1] at e2
  simp only [Option.some.injEq, Prod.mk.injEq] at e2
  omega
theorem first4_eq (k : Nat) (hk : 200 < k) : pledgelaw4_first.f k = some true := by
  unfold pledgelaw4_first.f
  have h : Dt 0 1 29 59 := ⟨by omega, by omega, by decide, by decide⟩
  rw [At_eq h (by omega) k hk]
  rfl
theorem number_eq (v b : Int) (h0 : 0 < b) (h1 : b ≤ 1000000000) : pledgeworld_Number.f v b = some (v % b) := by
  unfold pledgeworld_Number.f
  rw [if_neg (by omega)]
  have h1 := Int.tmod_lt_of_pos v h0
  have h2 := Int.lt_tmod_of_pos v h0
  have h3 := Int.emod_nonneg v (show b ≠ 0 by omega)
  have h4 := Int.emod_lt_of_pos v h0
  have h5 := Int.emod_add_mul_ediv v b
  have h6 := Int.tmod_add_mul_tdiv v b
  have key : ∃ c : Int, Int.tmod v b = v % b + b * c := ⟨v / b - Int.tdiv v b, by rw [Int.mul_sub]; omega⟩
  obtain ⟨c, hc⟩ := key
  have hcc : c = 0 ∨ c = -1 := by
    have a1 : c < 1 := by
      apply Decidable.byContradiction; intro hx
      have : b * 1 ≤ b * c := Int.mul_le_mul_of_nonneg_left (by omega) (by omega)
      omega
    have a2 : -2 < c := by
      apply Decidable.byContradiction; intro hx
      have : b * c ≤ b * (-2) := Int.mul_le_mul_of_nonneg_left (by omega) (by omega)
      omega
    omega
  rcases hcc with rfl | rfl
  · rw [if_neg (by omega)]; congr 1; omega
  · rw [if_pos (by omega), w64s _ (by omega) (by omega)]; congr 1; omega
theorem Of_l1 (y : Int) (i : Nat) (hi : i ≤ 12) (a2 : Int) : ∀ (t a k : Nat) (c : Int), i - a = t → a ≤ i → t + 2 < k → -1000000 ≤ c - cm y a → c - cm y a ≤ 1000000 →
    day_Of.l1 k c ((a : Int) + 1) y ((i : Int) + 1) a2 = some (if c - cm y a + cm y i > 40000 then (0, some 103) else (c - cm y a + cm y i, none)) := by
  intro t
  induction t with
  | zero =>
    intro a k c ht ha hk h1 h2
    obtain rfl : a = i := by omega
    obtain ⟨k, rfl⟩ : ∃ m, k = m + 1 := ⟨k - 1, by omega⟩
    simp only [day_Of.l1]
    rw [if_neg (by omega), show c - cm y a + cm y a = c by omega]
    split <;> rfl
  | succ t ih =>
    intro a k c ht ha hk h1 h2
    obtain ⟨k, rfl⟩ : ∃ m, k = m + 1 := ⟨k - 1, by omega⟩
    obtain ⟨k', hk'⟩ : ∃ m, k = m + 1 := ⟨k - 1, by omega⟩
    have hd := days_eq k' y ((a : Int) + 1)
    rw [← hk'] at hd
    clear hk'
    have hm := dm_bd y ((a : Int) + 1)
    have hc := cm_bd y a
    simp only [day_Of.l1]
    rw [if_pos (by omega), hd]
    simp only [Option.bind_some]
    rw [w64s _ (by omega) (by omega), w64s _ (by omega) (by omega)]
    have e : cm y (a + 1) = cm y a + dm y ((a : Int) + 1) := rfl
    have := ih (a + 1) k (c + dm y ((a : Int) + 1)) (by omega) (by omega) (by omega) (by omega) (by omega)
    rw [e, show c + dm y ((a : Int) + 1) - (cm y a + dm y ((a : Int) + 1)) = c - cm y a by omega, show ((a + 1 : Nat) : Int) = (a : Int) + 1 by omega] at this
    exact this
theorem Of_l0 (j i : Nat) (hj : j ≤ 500) (hi : i ≤ 12) (a2 : Int) : ∀ (t a k : Nat) (c : Int), j - a = t → a ≤ j → t + 20 < k → -1000 ≤ c - cy a → c - cy a ≤ 1000 →
    day_Of.l0 k c (2000 + (a : Int)) (2000 + (j : Int)) ((i : Int) + 1) a2 = some (if c - cy a + cy j + cm (2000 + (j : Int)) i > 40000 then (0, some 103) else (c - cy a + cy j + cm (2000 + (j : Int)) i, none)) := by
  intro t
  induction t with
  | zero =>
    intro a k c ht ha hk h1 h2
    obtain rfl : a = j := by omega
    obtain ⟨k, rfl⟩ : ∃ m, k = m + 1 := ⟨k - 1, by omega⟩
    have hb := cy_bd a
    simp only [day_Of.l0]
    rw [if_neg (by omega)]
    have e0 : cm (2000 + (a : Int)) 0 = 0 := rfl
    have := Of_l1 (2000 + (a : Int)) i hi a2 i 0 k c (by omega) (by omega) (by omega) (by omega) (by omega)
    rw [e0, Int.sub_zero] at this
    rw [show c - cy a + cy a = c by omega]
    simpa using this
  | succ t ih =>
    intro a k c ht ha hk h1 h2
    obtain ⟨k, rfl⟩ : ∃ m, k = m + 1 := ⟨k - 1, by omega⟩
    have hm := ln_bd (2000 + (a : Int))
    have hc := cy_bd a
    simp only [day_Of.l0]
    rw [if_pos (by omega), long_eq]
    simp only [Option.bind_some]
    rw [w64s _ (by omega) (by omega), w64s _ (by omega) (by omega)]
    have e : cy (a + 1) = cy a + ln (2000 + (a : Int)) := rfl
    have := ih (a + 1) k (c + ln (2000 + (a : Int))) (by omega) (by omega) (by omega) (by omega) (by omega)
    rw [e, show c + ln (2000 + (a : Int)) - (cy a + ln (2000 + (a : Int))) = c - cy a by omega, show (2000 : Int) + ((a + 1 : Nat) : Int) = 2000 + (a : Int) + 1 by omega] at this
    exact this
theorem Of_eq {j i : Nat} {d n : Int} (h : Dt j i d n) (hj : j ≤ 200) (k : Nat) (hk : 250 < k) :
    day_Of.f k (2000 + (j : Int)) ((i : Int) + 1) d = some (if n > 40000 then (0, some 103) else (n, none)) := by
  obtain ⟨hi, d1, d2, hn⟩ := h
  have hb := dm_bd (2000 + (j : Int)) ((i : Int) + 1)
  unfold day_Of.f
  obtain ⟨k, rfl⟩ : ∃ m, k = m + 1 := ⟨k - 1, by omega⟩
  rw [if_neg (by omega), if_neg (by omega), if_neg (by omega), if_neg (by omega), if_neg (by omega), days_eq]
  simp only [Option.bind_some, day_Of.j0]
  rw [if_neg (by simp; omega), w64s _ (by omega) (by omega)]
  have := Of_l0 j i (by omega) (by omega) d j 0 k (d - 1) (by omega) (by omega) (by omega) (by simp [cy]; omega) (by simp [cy]; omega)
  have e0 : cy 0 = 0 := rfl
  rw [e0, Int.sub_zero, show d - 1 + cy j + cm (2000 + (j : Int)) i = n by omega] at this
  simpa using this
/-- A date that may be. -/
def okD (y m d : Int) : Prop := 2000 ≤ y ∧ y ≤ 2200 ∧ 1 ≤ m ∧ m ≤ 12 ∧ 1 ≤ d ∧ d ≤ dm y m
instance (y m d : Int) : Decidable (okD y m d) := by unfold okD; infer_instance
theorem Of_bad (y m d : Int) (h : ¬ okD y m d) (k : Nat) (hk : 2 < k) : day_Of.f k y m d = some (0, some 103) := by
  unfold day_Of.f
  obtain ⟨k', hk'⟩ : ∃ m, k = m + 1 := ⟨k - 1, by omega⟩
  have hd := days_eq k' y m
  have hj : ∀ a b c, day_Of.j0 k true a b c = some (0, some 103) := by intro a b c; rw [hk']; simp [day_Of.j0]
  rw [← hk'] at hd
  clear hk' hk
  by_cases h1 : y < 2000
  · rw [if_pos h1, hj]
  rw [if_neg h1]
  by_cases h2 : y > 2200
  · rw [if_pos h2, hj]
  rw [if_neg h2]
  by_cases h3 : m < 1
  · rw [if_pos h3, hj]
  rw [if_neg h3]
  by_cases h4 : m > 12
  · rw [if_pos h4, hj]
  rw [if_neg h4]
  by_cases h5 : d < 1
  · rw [if_pos h5, hj]
  rw [if_neg h5, hd]
  simp only [Option.bind_some]
  rw [decide_eq_true (show d > dm y m by unfold okD at h; omega), hj]
theorem ok_dt (y m d : Int) (h : okD y m d) : ∃ (j i : Nat), j ≤ 200 ∧ y = 2000 + (j : Int) ∧ m = (i : Int) + 1 ∧ Dt j i d (cy j + cm (2000 + (j : Int)) i + d - 1) := by
  obtain ⟨h1, h2, h3, h4, h5, h6⟩ := h
  have e1 : 2000 + (((y - 2000).toNat : Nat) : Int) = y := by omega
  have e2 : (((m - 1).toNat : Nat) : Int) + 1 = m := by omega
  refine ⟨(y - 2000).toNat, (m - 1).toNat, by omega, e1.symm, e2.symm, ⟨by omega, h5, ?_, rfl⟩⟩
  rw [e1, e2]; exact h6
theorem Weekday_eq (n : Int) : day_Weekday.f n = some ((n + 6) % 7) := by
  unfold day_Weekday.f
  have h1 := Int.tmod_lt_of_pos n (show (0 : Int) < 7 by omega)
  have h2 := Int.lt_tmod_of_pos n (show (0 : Int) < 7 by omega)
  have h3 := Int.tmod_add_mul_tdiv n 7
  rw [w64s (Int.tmod n 7 + 7) (by omega) (by omega), Int.tmod_eq_emod_of_nonneg (show 0 ≤ Int.tmod n 7 + 7 by omega), w64s _ (by omega) (by omega), Int.tmod_eq_emod_of_nonneg (by omega)]
  congr 1
  omega
theorem week_on (n : Int) (h0 : 0 ≤ n) (h1 : n ≤ 40000) : ((day_Weekday.f (wrap64 (n + 1))).bind fun t => ((day_Weekday.f n).bind fun s => (some (t == (Int.tmod (wrap64 (s + 1)) 7))))) = some true := by
  rw [w64s _ (by omega) (by omega), Weekday_eq, Weekday_eq]
  simp only [Option.bind_some]
  rw [w64s _ (by omega) (by omega), Int.tmod_eq_emod_of_nonneg (by omega)]
  congr 1
  simp only [beq_iff_eq]
  omega
/-- The next date. -/
theorem next {j i : Nat} {d n : Int} (h : Dt j i d n) : (Dt j i (d + 1) (n + 1)) ∨ (28 ≤ d ∧ Dt j (i + 1) 1 (n + 1)) ∨ (28 ≤ d ∧ Dt (j + 1) 0 1 (n + 1)) := by
  obtain ⟨hi, d1, d2, hn⟩ := h
  have hb := dm_bd (2000 + (j : Int)) ((i : Int) + 1)
  by_cases h : d < dm (2000 + (j : Int)) ((i : Int) + 1)
  · exact .inl ⟨hi, by omega, by omega, by omega⟩
  · by_cases h2 : i < 11
    · refine .inr (.inl ⟨by omega, by omega, by omega, ?_, ?_⟩)
      · have := dm_bd (2000 + (j : Int)) (((i + 1 : Nat) : Int) + 1); omega
      · have e : cm (2000 + (j : Int)) (i + 1) = cm (2000 + (j : Int)) i + dm (2000 + (j : Int)) ((i : Int) + 1) := rfl
        omega
    · obtain rfl : i = 11 := by omega
      refine .inr (.inr ⟨by omega, by omega, by omega, ?_, ?_⟩)
      · have := dm_bd (2000 + ((j + 1 : Nat) : Int)) (((0 : Nat) : Int) + 1); omega
      · have h3 := cm_all (2000 + (j : Int))
        have h4 : cm (2000 + (j : Int)) 12 = cm (2000 + (j : Int)) 11 + dm (2000 + (j : Int)) (((11 : Nat) : Int) + 1) := rfl
        have h5 : cy (j + 1) = cy j + ln (2000 + (j : Int)) := rfl
        have h6 : cm (2000 + ((j + 1 : Nat) : Int)) 0 = 0 := rfl
        omega
theorem back_j0 (k : Nat) (n : Int) (h0 : 0 ≤ n) (h1 : n ≤ 40000) (y m d y' m' d' : Int) (hd : 1 ≤ d) (hd2 : d ≤ 31) (h : (y' = y ∧ m' = m ∧ d' = d + 1) ∨ (28 ≤ d ∧ y' = y ∧ m' = m + 1 ∧ d' = 1) ∨ (28 ≤ d ∧ y' = y + 1 ∧ d' = 1)) :
    pledgelaw4_DayBack.j0 (k + 1) n true false y m d y' m' d' = some true := by
  have hw := week_on n h0 h1
  simp only [pledgelaw4_DayBack.j0]
  rw [if_neg (by simp), w64s (d + 1) (by omega) (by omega)]
  simp only [hw, if_true]
  rcases h with ⟨rfl, rfl, rfl⟩ | ⟨h2, rfl, rfl, rfl⟩ | ⟨h2, rfl, rfl⟩
  · rw [if_neg (by omega), if_pos rfl, if_neg (by omega), if_pos rfl, if_neg (by omega), if_pos rfl]
  · rw [if_neg (by omega), if_pos rfl, if_pos (by omega), if_pos rfl, if_pos (by omega)]
  · rw [if_pos (by omega), if_pos rfl, if_pos (by omega)]
theorem back_all (n : Int) (h0 : 0 ≤ n) (h1 : n < 40000) (k : Nat) (hk : 300 < k) :
    ((day_At.f k n).bind fun bt121 => ((day_At.f k (wrap64 (n + 1))).bind fun bt126 => ((day_Of.f k bt121.1 bt121.2.1 bt121.2.2.1).bind fun bt131 => (if bt121.2.2.2.isNone = true then (if bt126.2.2.2.isNone = true then (if bt131.2.isNone = true then (pledgelaw4_DayBack.j0 k n true (bt131.1 != n) bt121.1 bt121.2.1 bt121.2.2.1 bt126.1 bt126.2.1 bt126.2.2.1) else (pledgelaw4_DayBack.j0 k n true true bt121.1 bt121.2.1 bt121.2.2.1 bt126.1 bt126.2.1 bt126.2.2.1)) else (pledgelaw4_DayBack.j0 k n true true bt121.1 bt121.2.1 bt121.2.2.1 bt126.1 bt126.2.1 bt126.2.2.1)) else (pledgelaw4_DayBack.j0 k n true true bt121.1 bt121.2.1 bt121.2.2.1 bt126.1 bt126.2.1 bt126.2.2.1))))) = some true := by
  obtain ⟨z, rfl⟩ := Int.eq_ofNat_of_zero_le h0
  obtain ⟨j, i, d, h⟩ := Dt.ex z
  have hr := h.rest
  have hc := cy_bd j
  have hb := dm_bd (2000 + (j : Int)) ((i : Int) + 1)
  have hof := Of_eq h (by omega) k (by omega)
  rw [if_neg (by omega)] at hof
  rw [At_eq h (by omega) k (by omega), w64s _ (by omega) (by omega)]
  simp only [Option.bind_some]
  rw [hof]
  obtain ⟨k', hk'⟩ : ∃ m, k = m + 1 := ⟨k - 1, by omega⟩
  have hj := back_j0 k' z h0 (by omega) (2000 + (j : Int)) ((i : Int) + 1) d
  rw [← hk'] at hj
  have d1 := h.d1
  have d2 := h.d2
  rcases next h with h2 | ⟨hd, h2⟩ | ⟨hd, h2⟩
  · rw [At_eq h2 (by omega) k (by omega)]
    simp only [Option.bind_some, Option.isNone_none, if_true, bne_self_eq_false]
    exact hj _ _ _ (by omega) (by omega) (.inl ⟨rfl, rfl, rfl⟩)
  · rw [At_eq h2 (by omega) k (by omega)]
    simp only [Option.bind_some, Option.isNone_none, if_true, bne_self_eq_false]
    exact hj _ _ _ (by omega) (by omega) (.inr (.inl ⟨hd, rfl, by omega, rfl⟩))
  · rw [At_eq h2 (by omega) k (by omega)]
    simp only [Option.bind_some, Option.isNone_none, if_true, bne_self_eq_false]
    exact hj _ _ _ (by omega) (by omega) (.inr (.inr ⟨hd, by omega, rfl⟩))
end Go.Proofs.YtobgpafdebiphaaDoor.PrDayBack
namespace Go.Proofs.YtobgpafdebiphaaDoor.Pr
open Go.RowKit Go.Proofs.YtobgpafdebiphaaDoor.EDayBack Go.Proofs.YtobgpafdebiphaaDoor.PrDayBack
theorem DayBack : pledgelaw4_DayBack.Pure := by
  intro n _
  refine ⟨400, ?_⟩
  unfold pledgelaw4_DayBack.f
  rw [first4_eq 400 (by omega)]
  simp only [Option.bind_some, if_true]
  rw [number_eq n 40000 (by omega) (by omega)]
  simp only [Option.bind_some]
  exact back_all _ (Int.emod_nonneg _ (by omega)) (Int.emod_lt_of_pos _ (by omega)) 400 (by omega)
end Go.Proofs.YtobgpafdebiphaaDoor.Pr
