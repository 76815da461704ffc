/- As many entries as may be; one more is told; one of a day and class that is there is replaced all the same: the pure statement of SchedFull, for all numbers. Conditions: none beyond the statement's own. -/
import Derived.Test.YtlomknhkbhibfaaDoorESchedFullx
import Derived.Test.YtlomknhkbhibfaaDoorOpen
namespace Go.Proofs.YtlomknhkbhibfaaDoor.PrSchedFull
open Go.RowKit Go.Proofs.YtlomknhkbhibfaaDoor.ESchedFull Go.Proofs.YtlomknhkbhibfaaDoorW.PrintWords Go.Proofs.YtlomknhkbhibfaaDoorW.PrintLast Go.Proofs.YtlomknhkbhibfaaDoorW.PrintMore Go.Proofs.YtlomknhkbhibfaaDoorW.PrintOpen
set_option linter.unusedSimpArgs false
set_option linter.unusedVariables false
theorem w64 (x : Int) (h1 : -9223372036854775808 ≤ x) (h2 : x ≤ 9223372036854775807) : wrap64 x = x := by unfold wrap64; omega
theorem w64s (x : Int) (h1 : -1000000000 ≤ x) (h2 : x ≤ 1000000000) : wrap64 x = x := by unfold wrap64; omega
theorem wu64 (n : Int) : IntKind.u64.wrap n = n % 18446744073709551616 := by simp [IntKind.wrap, IntKind.bits, IntKind.signed]
theorem rd_nat (l : List Int) (i : Nat) : rd l (i : Int) = l.getD i 0 := by unfold rd; rw [Int.toNat_natCast]
theorem rd_mem (l : List Int) (i : Nat) (h : i < l.length) : rd l (i : Int) ∈ l := by
  rw [rd_nat, List.getD_eq_getElem?_getD, List.getElem?_eq_getElem h]; exact List.getElem_mem h
theorem take_snoc_sum (l : List Int) (i : Nat) (h : i < l.length) : (l.take (i + 1)).sum = (l.take i).sum + rd l (i : Int) := by
  rw [List.take_succ_eq_append_getElem h, List.sum_append, rd_nat, List.getD_eq_getElem?_getD, List.getElem?_eq_getElem h]; simp
theorem number_eq (v b : Int) (h0 : 0 < b) (h1 : b ≤ 1000000000) : pledgeworld_Number.f v b = some (v % b) := by
  unfold pledgeworld_Number.f
  rw [if_neg (by omega)]
  have h1 := Int.tmod_lt_of_pos v h0
  have h2 := Int.lt_tmod_of_pos v h0
  have h3 := Int.emod_nonneg v (show b ≠ 0 by omega)
  have h4 := Int.emod_lt_of_pos v h0
  have h5 := Int.emod_add_mul_ediv v b
  have h6 := Int.tmod_add_mul_tdiv v b
  have key : ∃ c : Int, Int.tmod v b = v % b + b * c := ⟨v / b - Int.tdiv v b, by rw [Int.mul_sub]; omega⟩
  obtain ⟨c, hc⟩ := key
  have hcc : c = 0 ∨ c = -1 := by
    have a1 : c < 1 := by
      apply Decidable.byContradiction; intro hx
      have : b * 1 ≤ b * c := Int.mul_le_mul_of_nonneg_left (by omega) (by omega)
      omega
    have a2 : -2 < c := by
      apply Decidable.byContradiction; intro hx
      have : b * c ≤ b * (-2) := Int.mul_le_mul_of_nonneg_left (by omega) (by omega)
      omega
    omega
  rcases hcc with rfl | rfl
  · rw [if_neg (by omega)]; congr 1; omega
  · rw [if_pos (by omega), w64s _ (by omega) (by omega)]; congr 1; omega
theorem pos_all (x : S31) : ∀ es : List S31, (∀ y ∈ es, ordE y x < 0) → posE x es = es.length
  | [], _ => rfl
  | y :: l, h => by
    simp only [posE]
    rw [if_pos (h y (List.mem_cons_self ..)), pos_all x l (fun z hz => h z (List.mem_cons_of_mem _ hz))]; rfl
theorem pos_none (x y : S31) (l : List S31) (h : ¬ ordE y x < 0) : posE x (y :: l) = 0 := by
  simp only [posE]; rw [if_neg h]
theorem add_end (x : S31) (es : List S31) (hx : okE x) (hl : es.length < 64) (h : ∀ y ∈ es, ordE y x < 0) : addE es x = (es ++ [x], none) := by
  have hp := pos_all x es h
  have hi : isE x es = false := by unfold isE; rw [hp]; exact decide_eq_false (fun c => absurd c.1 (by omega))
  unfold addE
  rw [if_pos hx, hi, if_neg (by simp), if_neg (by omega), hp]
  unfold insE
  rw [List.take_length, List.drop_length]
theorem Is_none (code : Int) : pledgesee_Is.f none code = some (decide (0 = code)) := by
  unfold pledgesee_Is.f pledgeref_Bare.f pledgesee_Same.f pledgesee_Fault.f pledgeref_None.f pledgeref_SameFault.f
  by_cases h : 0 = code <;> simp [h]
theorem Is_some (c code : Int) (h1 : 101 ≤ c) (h2 : c ≤ 121) : pledgesee_Is.f (some c) code = some (decide (c = code)) := by
  unfold pledgesee_Is.f pledgeref_Bare.f pledgesee_Same.f pledgesee_Fault.f pledgesee_sentinel.f pledgeref_Bare.f pledgeref_SameFault.f
  by_cases h : c = code <;> simp [h, h1, h2] <;> simp [← h, h1, h2]
theorem full_lt {i j : Nat} (h : i < j) : ordE (fullX i) (fullX j) < 0 := by
  rw [ord_lt]
  unfold ltE fullX
  simp only []
  omega
theorem full_ok (k : Nat) (h : k < 80) : okE (fullX k) := by unfold okE fullX; simp only []; omega
def fulls (d : Nat) : List S31 := (List.range d).map fullX
theorem fulls_len (d : Nat) : (fulls d).length = d := by unfold fulls; rw [List.length_map, List.length_range]
theorem fulls_snoc (d : Nat) : fulls (d + 1) = fulls d ++ [fullX d] := by
  unfold fulls
  rw [List.range_succ, List.map_append]; rfl
theorem fulls_mem (d : Nat) : ∀ y ∈ fulls d, ∃ j, j < d ∧ y = fullX j := fun y hy => by
  unfold fulls at hy
  obtain ⟨j, hj, rfl⟩ := List.mem_map.1 hy
  exact ⟨j, List.mem_range.1 hj, rfl⟩
theorem add_over (x : S31) (es : List S31) (hx : okE x) (hl : 64 ≤ es.length) (h : ∀ y ∈ es, ordE y x < 0) : addE es x = (es, some 105) := by
  have hp := pos_all x es h
  have hi : isE x es = false := by unfold isE; rw [hp]; exact decide_eq_false (fun c => absurd c.1 (by omega))
  unfold addE
  rw [if_pos hx, hi, if_neg (by simp), if_pos hl]
theorem run_is (n : Nat) (hn : n ≤ 80) : ∀ i, i ≤ n → runE fullX i = fulls (min i 64) ∧ ∀ j, j < i → (addE (runE fullX j) (fullX j)).2 = if j < 64 then none else some 105
  | 0, _ => ⟨rfl, fun j hj => absurd hj (by omega)⟩
  | i + 1, hi => by
    obtain ⟨h1, h2⟩ := run_is n hn i (by omega)
    by_cases c : i < 64
    · rw [show min i 64 = i by omega] at h1
      have ha := add_end (fullX i) (fulls i) (full_ok i (by omega)) (by rw [fulls_len]; omega) (fun y hy => by
        obtain ⟨j, h, rfl⟩ := fulls_mem i y hy
        exact full_lt h)
      refine ⟨by rw [runE_succ, h1, ha, show min (i + 1) 64 = i + 1 by omega, fulls_snoc], fun j hj => ?_⟩
      by_cases c2 : j < i
      · exact h2 j c2
      · obtain rfl : j = i := by omega
        rw [h1, ha, if_pos c]
    · rw [show min i 64 = 64 by omega] at h1
      have ha := add_over (fullX i) (fulls 64) (full_ok i (by omega)) (by rw [fulls_len]; omega) (fun y hy => by
        obtain ⟨j, h, rfl⟩ := fulls_mem 64 y hy
        exact full_lt (by omega))
      refine ⟨by rw [runE_succ, h1, ha, show min (i + 1) 64 = 64 by omega], fun j hj => ?_⟩
      by_cases c2 : j < i
      · exact h2 j c2
      · obtain rfl : j = i := by omega
        rw [h1, ha, if_neg c]
theorem on_none : ∀ (l : List S31) (b : Bool), (∀ y ∈ l, ¬ (y.f1 = 1 ∧ y.f0 ≤ 0)) → onF 1 0 l b = b
  | [], _, _ => rfl
  | y :: l, b, h => by
    simp only [onF]
    rw [if_neg (h y (List.mem_cons_self ..))]
    exact on_none l b (fun z hz => h z (List.mem_cons_of_mem _ hz))
theorem add_last (on : Bool) (m : Nat) (hm : m ≤ 64) : ∃ E1, addE (fulls m) ⟨0, 1, on⟩ = (E1, none) ∧ onF 1 0 E1 false = on ∧ E1.length = max 1 m := by
  have hx : okE ⟨0, 1, on⟩ := by unfold okE; simp only []; omega
  have hone : onF 1 0 [(⟨0, 1, on⟩ : S31)] false = on := by simp only [onF]; rw [if_pos ⟨trivial, by omega⟩]
  rcases m with _ | m
  · refine ⟨[⟨0, 1, on⟩], ?_, hone, rfl⟩
    have := add_end ⟨0, 1, on⟩ [] hx (by simp) (by simp)
    exact this
  · have he : fulls (m + 1) = fullX 0 :: (List.range' 1 m).map fullX := by
      unfold fulls
      rw [List.range_eq_range', List.range'_succ, List.map_cons]
    have h0 : ordE (fullX 0) ⟨0, 1, on⟩ = 0 := by rw [ord_eq]; exact ⟨rfl, rfl⟩
    have hp : posE ⟨0, 1, on⟩ (fulls (m + 1)) = 0 := by rw [he]; exact pos_none _ _ _ (by rw [h0]; omega)
    have hi : isE ⟨0, 1, on⟩ (fulls (m + 1)) = true := by
      unfold isE
      rw [hp]
      refine decide_eq_true ⟨by rw [fulls_len]; omega, ?_⟩
      rw [he]
      exact h0
    refine ⟨(fulls (m + 1)).set 0 ⟨0, 1, on⟩, ?_, ?_, by rw [List.length_set, fulls_len]; omega⟩
    · unfold addE
      rw [if_pos hx, hi, if_pos rfl, hp]
    · rw [he, List.set_cons_zero]
      simp only [onF]
      rw [if_pos ⟨trivial, by omega⟩]
      refine on_none _ _ fun y hy => ?_
      obtain ⟨j, hj, rfl⟩ := List.mem_map.1 hy
      have := List.mem_range'_1.1 hj
      unfold fullX
      simp only []
      omega
theorem full_ok_ (t : Int) (h0 : 0 ≤ t) (h1 : t ≤ 80) (on : Bool) : fullOK t on := by
  obtain ⟨n, rfl⟩ : ∃ n : Nat, t = (n : Int) := ⟨t.toNat, by omega⟩
  obtain ⟨e1, e2⟩ := run_is n (by omega) n (Nat.le_refl _)
  obtain ⟨E1, g1, g2, g3⟩ := add_last on (min n 64) (by omega)
  unfold fullOK
  rw [Int.toNat_natCast, e1, g1]
  refine ⟨rfl, h1, e2, by rw [Is_some 105 105 (by omega) (by omega)]; rfl, rfl, g2, ?_⟩
  simp only []
  rw [g3]
  unfold mx mn
  (repeat' split) <;> omega
end Go.Proofs.YtlomknhkbhibfaaDoor.PrSchedFull
namespace Go.Proofs.YtlomknhkbhibfaaDoor.Pr
open Go.RowKit Go.Proofs.YtlomknhkbhibfaaDoor.ESchedFull Go.Proofs.YtlomknhkbhibfaaDoorW.PrintWords Go.Proofs.YtlomknhkbhibfaaDoorW.PrintLast Go.Proofs.YtlomknhkbhibfaaDoorW.PrintMore Go.Proofs.YtlomknhkbhibfaaDoorW.PrintOpen Go.Proofs.YtlomknhkbhibfaaDoor.PrSchedFull
theorem SchedFull : pledgelaw11_SchedFull.Pure := by
  intro a on _
  unfold pledgelaw11_SchedFull.f
  rw [number_eq a 80 (by omega) (by omega), Option.bind_some, if_pos (full_ok_ _ (by omega) (by omega) on)]
end Go.Proofs.YtlomknhkbhibfaaDoor.Pr
