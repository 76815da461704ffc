/- What lacks and what is above make both even, and never both are there: the pure statement of NeedEvens, for all numbers of 64 bits. -/
import Derived.Test.YtnpkohpgknhihaaDoorENeedEvensx
import Derived.Test.YtnpkohpgknhihaaDoorOpen
namespace Go.Proofs.YtnpkohpgknhihaaDoor.Pr
open Go.RowKit Go.Proofs.YtnpkohpgknhihaaDoor.ENeedEvens Go.Proofs.YtnpkohpgknhihaaDoorW.PrintWords Go.Proofs.YtnpkohpgknhihaaDoorW.PrintLast Go.Proofs.YtnpkohpgknhihaaDoorW.PrintMore Go.Proofs.YtnpkohpgknhihaaDoorW.PrintOpen

theorem amount_eq (a : Int) : need_amount.f a = some (decide (0 ≤ a ∧ a ≤ 1000000000000000)) := by
  unfold need_amount.f
  by_cases h : a ≥ 0
  · rw [if_pos h]; congr 1; simp; omega
  · rw [if_neg h]; congr 1; simp; omega
theorem above_eq (a b : Int) : need_above.f a b = some (if (0 ≤ a ∧ a ≤ 1000000000000000) ∧ (0 ≤ b ∧ b ≤ 1000000000000000) then (if b < a then a - b else 0) else 0) := by
  unfold need_above.f
  simp only [amount_eq, Option.bind_some, decide_eq_true_eq]
  by_cases h1 : 0 ≤ a ∧ a ≤ 1000000000000000
  · by_cases h2 : 0 ≤ b ∧ b ≤ 1000000000000000
    · rw [if_pos h1, if_pos h2, if_pos ⟨h1, h2⟩]
      congr 1
      unfold mx wrap64
      split <;> split <;> omega
    · rw [if_pos h1, if_neg h2, if_neg (fun h => h2 h.2)]
  · rw [if_neg h1, if_neg (fun h => h1 h.1)]
theorem short_eq (n h : Int) : need_Short.f n h = some (if (0 ≤ n ∧ n ≤ 1000000000000000) ∧ (0 ≤ h ∧ h ≤ 1000000000000000) then (if h < n then n - h else 0) else 0) := by
  unfold need_Short.f; rw [above_eq]; rfl
theorem spare_eq (n h : Int) : need_Spare.f n h = some (if (0 ≤ h ∧ h ≤ 1000000000000000) ∧ (0 ≤ n ∧ n ≤ 1000000000000000) then (if n < h then h - n else 0) else 0) := by
  unfold need_Spare.f; rw [above_eq]; rfl
theorem first_eq : pledgelaw17_first.f = some true := by
  unfold pledgelaw17_first.f; rw [short_eq]; rfl
theorem valid_eq (n h : Int) : pledgelaw17_valid.f n h = some (decide ((0 ≤ n ∧ n ≤ 1000000000000000) ∧ (0 ≤ h ∧ h ≤ 1000000000000000))) := by
  unfold pledgelaw17_valid.f
  repeat' split
  all_goals (congr 1; rw [Bool.eq_iff_iff]; simp; try omega)
theorem Valid_eq (n h : Int) : need_Valid.f n h = some (if (0 ≤ n ∧ n ≤ 1000000000000000) ∧ (0 ≤ h ∧ h ≤ 1000000000000000) then none else some 103) := by
  unfold need_Valid.f
  simp only [amount_eq, Option.bind_some, decide_eq_true_eq]
  by_cases h1 : 0 ≤ n ∧ n ≤ 1000000000000000 <;> by_cases h2 : 0 ≤ h ∧ h ≤ 1000000000000000 <;> simp [h1, h2]
theorem Bound_eq (n h : Int) : need_Bound.f n h = some (decide ((if (0 ≤ n ∧ n ≤ 1000000000000000) ∧ (0 ≤ h ∧ h ≤ 1000000000000000) then (if h < n then n - h else 0) else 0) > 0)) := by
  unfold need_Bound.f; rw [short_eq]; rfl

theorem NeedEvens : pledgelaw17_NeedEvens.Pure := by
  intro n h hn hh
  unfold pledgelaw17_NeedEvens.f
  simp only [first_eq, valid_eq, Option.bind_some, if_true, decide_eq_true_eq]
  by_cases hv : (0 ≤ n ∧ n ≤ 1000000000000000) ∧ (0 ≤ h ∧ h ≤ 1000000000000000)
  · rw [if_pos hv]
    obtain ⟨⟨n0, n1⟩, h0, h1⟩ := hv
    have hs := short_eq n h
    have hp := spare_eq n h
    rw [if_pos ⟨⟨n0, n1⟩, h0, h1⟩] at hs
    rw [if_pos ⟨⟨h0, h1⟩, n0, n1⟩] at hp
    rw [hs, hp]
    simp only [Option.bind_some]
    rcases Int.lt_trichotomy h n with hl | he | hg
    · rw [if_pos hl, if_neg (show ¬ n < h by omega)]
      have e1 : wrap64 (h + (n - h)) = n := by unfold wrap64; omega
      have e2 : wrap64 (n + 0) = n := by unfold wrap64; omega
      rw [e1, e2]
      simp only [Valid_eq, Bound_eq, short_eq, Option.bind_some]
      have x1 : ¬ n - h = 0 := by omega
      simp [x1]
      omega
    · subst he
      have e1 : wrap64 (h + 0) = h := by unfold wrap64; omega
      simp only [Int.lt_irrefl, if_false, e1]
      simp only [Valid_eq, Bound_eq, short_eq, Option.bind_some]
      simp
    · rw [if_neg (show ¬ h < n by omega), if_pos hg]
      have e1 : wrap64 (h + 0) = h := by unfold wrap64; omega
      have e2 : wrap64 (n + (h - n)) = h := by unfold wrap64; omega
      rw [e1, e2]
      simp only [Valid_eq, Bound_eq, short_eq, Option.bind_some]
      have x3 : ¬ h < n := by omega
      simp [x3]
  · rw [if_neg hv]

end Go.Proofs.YtnpkohpgknhihaaDoor.Pr
