/- A week on it is the same day of the week; each day of the week comes once in seven: what the walk leaves of DayWeeks, the chapter's examples. Conditions: none beyond the statement's own. -/
import Derived.Test.YtobgpafdebiphaaDoorEDayWeeksx
import Derived.Test.YtobgpafdebiphaaDoorOpen
namespace Go.Proofs.YtobgpafdebiphaaDoor.PrDayWeeks
open Go.RowKit Go.Proofs.YtobgpafdebiphaaDoor.EDayWeeks Go.Proofs.YtobgpafdebiphaaDoorW.PrintWords Go.Proofs.YtobgpafdebiphaaDoorW.PrintLast Go.Proofs.YtobgpafdebiphaaDoorW.PrintMore Go.Proofs.YtobgpafdebiphaaDoorW.PrintOpen
set_option linter.unusedSimpArgs false
set_option linter.unusedVariables false
theorem w64 (x : Int) (h1 : -9223372036854775808 ≤ x) (h2 : x ≤ 9223372036854775807) : wrap64 x = x := by unfold wrap64; omega
theorem w64s (x : Int) (h1 : -1000000000 ≤ x) (h2 : x ≤ 1000000000) : wrap64 x = x := by unfold wrap64; omega
theorem wu64 (n : Int) : IntKind.u64.wrap n = n % 18446744073709551616 := by simp [IntKind.wrap, IntKind.bits, IntKind.signed]
theorem rd_nat (l : List Int) (i : Nat) : rd l (i : Int) = l.getD i 0 := by unfold rd; rw [Int.toNat_natCast]
theorem rd_mem (l : List Int) (i : Nat) (h : i < l.length) : rd l (i : Int) ∈ l := by
  rw [rd_nat, List.getD_eq_getElem?_getD, List.getElem?_eq_getElem h]; exact List.getElem_mem h
theorem take_snoc_sum (l : List Int) (i : Nat) (h : i < l.length) : (l.take (i + 1)).sum = (l.take i).sum + rd l (i : Int) := by
  rw [List.take_succ_eq_append_getElem h, List.sum_append, rd_nat, List.getD_eq_getElem?_getD, List.getElem?_eq_getElem h]; simp
/-- A year that leaps. -/
def leap (y : Int) : Prop := y % 4 = 0 ∧ (y % 100 ≠ 0 ∨ y % 400 = 0)
instance (y : Int) : Decidable (leap y) := by unfold leap; infer_instance
theorem tmod_zero (a b : Int) : Int.tmod a b = 0 ↔ a % b = 0 := by rw [← Int.dvd_iff_tmod_eq_zero, Int.dvd_iff_emod_eq_zero]
theorem leap_iff (y : Int) : leap y ↔ y % 4 = 0 ∧ (y % 100 ≠ 0 ∨ y % 400 = 0) := Iff.rfl
theorem Leap_eq (y : Int) : day_Leap.f y = some (decide (leap y)) := by
  unfold day_Leap.f
  have h1 := tmod_zero y 4
  have h2 := tmod_zero y 100
  have h3 := tmod_zero y 400
  have h4 := leap_iff y
  by_cases c1 : Int.tmod y 4 = 0
  · rw [if_pos c1]
    have c1' := h1.1 c1
    by_cases c2 : Int.tmod y 100 = 0
    · have c2' := h2.1 c2
      rw [if_pos c2]
      congr 1
      rw [Bool.eq_iff_iff, beq_iff_eq, decide_eq_true_eq, h3, h4]
      omega
    · have c2' : ¬ y % 100 = 0 := fun h => c2 (h2.2 h)
      rw [if_neg c2, decide_eq_true (h4.2 ⟨c1', .inl c2'⟩)]
  · have c1' : ¬ y % 4 = 0 := fun h => c1 (h1.2 h)
    rw [if_neg c1, decide_eq_false (fun h => c1' (h4.1 h).1)]
/-- A year's days; a month's days. -/
def ln (y : Int) : Int := if leap y then 366 else 365
def dm (y m : Int) : Int := if m = 2 then (if leap y then 29 else 28) else if m = 4 then 30 else if m = 6 then 30 else if m = 9 then 30 else if m = 11 then 30 else 31
theorem long_eq (y : Int) : day_long.f y = some (ln y) := by
  unfold day_long.f ln
  rw [Leap_eq]
  simp only [Option.bind_some, decide_eq_true_eq]
  split <;> rfl
theorem days_eq (k : Nat) (y m : Int) : day_days.f (k + 1) y m = some (dm y m) := by
  unfold day_days.f dm
  rw [Leap_eq]
  simp only [Option.bind_some]
  by_cases h : m = 2
  · rw [if_pos h, if_pos h]
    simp only [day_days.j0, decide_eq_true_eq, if_pos h]
    split <;> rfl
  · rw [if_neg h, if_neg h]
    simp only [day_days.j0, Bool.false_eq_true, if_false, if_neg h]
    repeat' split
    all_goals rfl
theorem ln_bd (y : Int) : 365 ≤ ln y ∧ ln y ≤ 366 := by unfold ln; split <;> omega
theorem dm_bd (y m : Int) : 28 ≤ dm y m ∧ dm y m ≤ 31 := by unfold dm; repeat' split
                                                            all_goals omega
/-- The days before a year; the days of a year before a month. -/
def cy : Nat → Int
  | 0 => 0
  | j + 1 => cy j + ln (2000 + (j : Int))
def cm (y : Int) : Nat → Int
  | 0 => 0
  | i + 1 => cm y i + dm y ((i : Int) + 1)
theorem cy_bd : ∀ j : Nat, 365 * (j : Int) ≤ cy j ∧ cy j ≤ 366 * (j : Int)
  | 0 => by simp [cy]
  | j + 1 => by
    have h := cy_bd j
    have h2 := ln_bd (2000 + (j : Int))
    simp only [cy]
    omega
theorem cy_le (a : Nat) : ∀ b : Nat, cy a ≤ cy (a + b)
  | 0 => by simp
  | b + 1 => by
    have h := cy_le a b
    have h2 := ln_bd (2000 + ((a + b : Nat) : Int))
    rw [← Nat.add_assoc]
    simp only [cy]
    omega
theorem cm_bd (y : Int) : ∀ j : Nat, 28 * (j : Int) ≤ cm y j ∧ cm y j ≤ 31 * (j : Int)
  | 0 => by simp [cm]
  | j + 1 => by
    have h := cm_bd y j
    have h2 := dm_bd y ((j : Int) + 1)
    simp only [cm]
    omega
theorem cm_le (y : Int) (a : Nat) : ∀ b : Nat, cm y a ≤ cm y (a + b)
  | 0 => by simp
  | b + 1 => by
    have h := cm_le y a b
    have h2 := dm_bd y (((a + b : Nat) : Int) + 1)
    rw [← Nat.add_assoc]
    simp only [cm]
    omega
theorem cm_all (y : Int) : cm y 12 = ln y := by
  simp only [cm, ln]
  by_cases h : leap y <;> simp [dm, h]
/-- A date that is there: its number of the year, of the month, its day, and which day it is. -/
structure Dt (j i : Nat) (d n : Int) : Prop where
  hi : i < 12
  d1 : 1 ≤ d
  d2 : d ≤ dm (2000 + (j : Int)) ((i : Int) + 1)
  hn : n = cy j + cm (2000 + (j : Int)) i + d - 1
theorem Dt.rest {j i : Nat} {d n : Int} (h : Dt j i d n) : 0 ≤ n - cy j ∧ n - cy j < ln (2000 + (j : Int)) := by
  obtain ⟨hi, d1, d2, hn⟩ := h
  have h1 := cm_bd (2000 + (j : Int)) i
  have h2 := cm_le (2000 + (j : Int)) (i + 1) (11 - i)
  rw [show i + 1 + (11 - i) = 12 by omega, cm_all] at h2
  simp only [cm] at h2
  omega
theorem Dt.ex : ∀ n : Nat, ∃ j i d, Dt j i d (n : Int)
  | 0 => ⟨0, 0, 1, by omega, by omega, by have := dm_bd 2000 1; simp; omega, by simp [cy, cm]⟩
  | n + 1 => by
    obtain ⟨j, i, d, hi, d1, d2, hn⟩ := Dt.ex n
    by_cases h : d < dm (2000 + (j : Int)) ((i : Int) + 1)
    · exact ⟨j, i, d + 1, hi, by omega, by omega, by omega⟩
    · by_cases h2 : i < 11
      · refine ⟨j, i + 1, 1, by omega, by omega, ?_, ?_⟩
        · have := dm_bd (2000 + (j : Int)) (((i + 1 : Nat) : Int) + 1); omega
        · simp only [cm]; omega
      · obtain rfl : i = 11 := by omega
        refine ⟨j + 1, 0, 1, by omega, by omega, ?_, ?_⟩
        · have := dm_bd (2000 + ((j + 1 : Nat) : Int)) (((0 : Nat) : Int) + 1); omega
        · have h3 := cm_all (2000 + (j : Int))
          have h4 : cm (2000 + (j : Int)) 12 = cm (2000 + (j : Int)) 11 + dm (2000 + (j : Int)) (((11 : Nat) : Int) + 1) := rfl
          have h5 : cy (j + 1) = cy j + ln (2000 + (j : Int)) := rfl
          have h6 : cm (2000 + ((j + 1 : Nat) : Int)) 0 = 0 := rfl
          omega
theorem At_l1 (y : Int) (hy : 2000 ≤ y ∧ y ≤ 3000) (i : Nat) (hi : i < 12) (d : Int) (d1 : 1 ≤ d) (d2 : d ≤ dm y ((i : Int) + 1)) : ∀ (t a k : Nat), i - a = t → a ≤ i → t + 2 < k →
    day_At.l1 k (cm y i + d - 1 - cm y a) y ((a : Int) + 1) 1 = some (y, (i : Int) + 1, d, none) := by
  intro t
  have hb := dm_bd y ((i : Int) + 1)
  have hcb := cm_bd y i
  induction t with
  | zero =>
    intro a k ht ha hk
    obtain rfl : a = i := by omega
    obtain ⟨k, rfl⟩ : ∃ m, k = m + 1 := ⟨k - 1, by omega⟩
    obtain ⟨k', hk'⟩ : ∃ m, k = m + 1 := ⟨k - 1, by omega⟩
    have hd := days_eq k' y ((a : Int) + 1)
    rw [← hk'] at hd
    clear hk'
    simp only [day_At.l1]
    rw [hd]
    simp only [Option.bind_some]
    rw [if_neg (by omega)]
    have e : wrap64 (1 + (cm y a + d - 1 - cm y a)) = d := by rw [w64s _ (by omega) (by omega)]; omega
    rw [e]
  | succ t ih =>
    intro a k ht ha hk
    obtain ⟨k, rfl⟩ : ∃ m, k = m + 1 := ⟨k - 1, by omega⟩
    obtain ⟨k', hk'⟩ : ∃ m, k = m + 1 := ⟨k - 1, by omega⟩
    have hc := cm_le y (a + 1) (i - (a + 1))
    rw [show a + 1 + (i - (a + 1)) = i by omega] at hc
    have ha0 := cm_bd y a
    have hm0 := dm_bd y ((a : Int) + 1)
    have hd := days_eq k' y ((a : Int) + 1)
    rw [← hk'] at hd
    simp only [day_At.l1]
    rw [hd]
    simp only [Option.bind_some]
    have hx : cm y (a + 1) = cm y a + dm y ((a : Int) + 1) := rfl
    rw [if_pos (by omega), w64s _ (by omega) (by omega), w64s _ (by omega) (by omega)]
    have := ih (a + 1) k (by omega) (by omega) (by omega)
    rw [hx] at this
    rw [show cm y i + d - 1 - cm y a - dm y ((a : Int) + 1) = cm y i + d - 1 - (cm y a + dm y ((a : Int) + 1)) by omega]
    simpa using this
theorem At_l0 {j i : Nat} {d n : Int} (h : Dt j i d n) (hj : j ≤ 500) : ∀ (t a k : Nat), j - a = t → a ≤ j → t + 20 < k →
    day_At.l0 k (n - cy a) (2000 + (a : Int)) 1 1 = some (2000 + (j : Int), (i : Int) + 1, d, none) := by
  intro t
  have hr := h.rest
  have hln := ln_bd (2000 + (j : Int))
  have hcj := cy_bd j
  induction t with
  | zero =>
    intro a k ht ha hk
    obtain rfl : a = j := by omega
    obtain ⟨k, rfl⟩ : ∃ m, k = m + 1 := ⟨k - 1, by omega⟩
    simp only [day_At.l0]
    rw [long_eq]
    simp only [Option.bind_some]
    rw [if_neg (by omega)]
    have := At_l1 (2000 + (a : Int)) (by omega) i h.hi d h.d1 h.d2 i 0 k (by omega) (by omega) (by have := h.hi; omega)
    have hn := h.hn
    rw [show n - cy a = cm (2000 + (a : Int)) i + d - 1 - cm (2000 + (a : Int)) 0 by simp only [cm]; omega]
    simpa using this
  | succ t ih =>
    intro a k ht ha hk
    obtain ⟨k, rfl⟩ : ∃ m, k = m + 1 := ⟨k - 1, by omega⟩
    have hc := cy_le (a + 1) (j - (a + 1))
    rw [show a + 1 + (j - (a + 1)) = j by omega] at hc
    have ha0 := cy_bd a
    have hx : cy (a + 1) = cy a + ln (2000 + (a : Int)) := rfl
    have hb := ln_bd (2000 + (a : Int))
    simp only [day_At.l0]
    rw [long_eq]
    simp only [Option.bind_some]
    rw [if_pos (by omega), w64s _ (by omega) (by omega), w64s _ (by omega) (by omega)]
    have := ih (a + 1) k (by omega) (by omega) (by omega)
    rw [hx] at this
    rw [show n - cy a - ln (2000 + (a : Int)) = n - (cy a + ln (2000 + (a : Int))) by omega, show 2000 + (a : Int) + 1 = 2000 + ((a + 1 : Nat) : Int) by omega]
    exact this
theorem At_eq {j i : Nat} {d n : Int} (h : Dt j i d n) (hn : n ≤ 40000) (k : Nat) (hk : 200 < k) : day_At.f k n = some (2000 + (j : Int), (i : Int) + 1, d, none) := by
  have hr := h.rest
  have hc := cy_bd j
  unfold day_At.f
  rw [if_neg (by omega), decide_eq_false (by omega)]
  obtain ⟨k, rfl⟩ : ∃ m, k = m + 1 := ⟨k - 1, by omega⟩
  simp only [day_At.j0, Bool.false_eq_true, if_false]
  have := At_l0 h (by omega) j 0 k (by omega) (by omega) (by omega)
  simpa [cy] using this
theorem At_out (n : Int) (h : n < 0 ∨ 40000 < n) (k : Nat) : day_At.f (k + 1) n = some (0, 0, 0, some 103) := by
  unfold day_At.f
  by_cases h1 : n < 0
  · rw [if_pos h1]; simp [day_At.j0]
  · rw [if_neg h1, decide_eq_true (by omega)]; simp [day_At.j0]
theorem Dt.uniq {j i : Nat} {d n : Int} (h : Dt j i d n) {j' i' : Nat} {d' : Int} (h' : Dt j' i' d' n) (hn : n ≤ 40000) : j = j' ∧ i = i' ∧ d = d' := by
  have e1 := At_eq h hn 201 (by omega)
  have e2 := At_eq h' hn 201 (by omega)
  rw [e1] at e2
  simp only [Option.some.injEq, Prod.mk.injEq] at e2
  omega
theorem first4_eq (k : Nat) (hk : 200 < k) : pledgelaw4_first.f k = some true := by
  unfold pledgelaw4_first.f
  have h : Dt 0 1 29 59 := ⟨by omega, by omega, by decide, by decide⟩
  rw [At_eq h (by omega) k hk]
  rfl
end Go.Proofs.YtobgpafdebiphaaDoor.PrDayWeeks
namespace Go.Proofs.YtobgpafdebiphaaDoor.Pr
open Go.RowKit Go.Proofs.YtobgpafdebiphaaDoor.EDayWeeks Go.Proofs.YtobgpafdebiphaaDoor.PrDayWeeks
theorem DayWeeks : pledgelaw4_DayWeeks.Pure := by
  intro y _
  refine ⟨300, ?_⟩
  unfold pledgelaw4_DayWeeks.f
  rw [first4_eq 300 (by omega)]
  rfl
end Go.Proofs.YtobgpafdebiphaaDoor.Pr
