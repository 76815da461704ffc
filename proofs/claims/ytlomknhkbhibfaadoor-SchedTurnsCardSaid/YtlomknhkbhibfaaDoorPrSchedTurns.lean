/- From the day of an entry on it holds, till the next one of its class; ahead of it the one ahead does; other classes are not touched: the pure statement of SchedTurns, for all rows. Conditions: none beyond the statement's own. -/
import Derived.Test.YtlomknhkbhibfaaDoorESchedTurnsx
import Derived.Test.YtlomknhkbhibfaaDoorOpen
namespace Go.Proofs.YtlomknhkbhibfaaDoor.PrSchedTurns
open Go.RowKit Go.Proofs.YtlomknhkbhibfaaDoor.ESchedTurns Go.Proofs.YtlomknhkbhibfaaDoorW.PrintWords Go.Proofs.YtlomknhkbhibfaaDoorW.PrintLast Go.Proofs.YtlomknhkbhibfaaDoorW.PrintMore Go.Proofs.YtlomknhkbhibfaaDoorW.PrintOpen
set_option linter.unusedSimpArgs false
set_option linter.unusedVariables false
theorem w64 (x : Int) (h1 : -9223372036854775808 ≤ x) (h2 : x ≤ 9223372036854775807) : wrap64 x = x := by unfold wrap64; omega
theorem w64s (x : Int) (h1 : -1000000000 ≤ x) (h2 : x ≤ 1000000000) : wrap64 x = x := by unfold wrap64; omega
theorem wu64 (n : Int) : IntKind.u64.wrap n = n % 18446744073709551616 := by simp [IntKind.wrap, IntKind.bits, IntKind.signed]
theorem rd_nat (l : List Int) (i : Nat) : rd l (i : Int) = l.getD i 0 := by unfold rd; rw [Int.toNat_natCast]
theorem rd_mem (l : List Int) (i : Nat) (h : i < l.length) : rd l (i : Int) ∈ l := by
  rw [rd_nat, List.getD_eq_getElem?_getD, List.getElem?_eq_getElem h]; exact List.getElem_mem h
theorem take_snoc_sum (l : List Int) (i : Nat) (h : i < l.length) : (l.take (i + 1)).sum = (l.take i).sum + rd l (i : Int) := by
  rw [List.take_succ_eq_append_getElem h, List.sum_append, rd_nat, List.getD_eq_getElem?_getD, List.getElem?_eq_getElem h]; simp
theorem number_eq (v b : Int) (h0 : 0 < b) (h1 : b ≤ 1000000000) : pledgeworld_Number.f v b = some (v % b) := by
  unfold pledgeworld_Number.f
  rw [if_neg (by omega)]
  have h1 := Int.tmod_lt_of_pos v h0
  have h2 := Int.lt_tmod_of_pos v h0
  have h3 := Int.emod_nonneg v (show b ≠ 0 by omega)
  have h4 := Int.emod_lt_of_pos v h0
  have h5 := Int.emod_add_mul_ediv v b
  have h6 := Int.tmod_add_mul_tdiv v b
  have key : ∃ c : Int, Int.tmod v b = v % b + b * c := ⟨v / b - Int.tdiv v b, by rw [Int.mul_sub]; omega⟩
  obtain ⟨c, hc⟩ := key
  have hcc : c = 0 ∨ c = -1 := by
    have a1 : c < 1 := by
      apply Decidable.byContradiction; intro hx
      have : b * 1 ≤ b * c := Int.mul_le_mul_of_nonneg_left (by omega) (by omega)
      omega
    have a2 : -2 < c := by
      apply Decidable.byContradiction; intro hx
      have : b * c ≤ b * (-2) := Int.mul_le_mul_of_nonneg_left (by omega) (by omega)
      omega
    omega
  rcases hcc with rfl | rfl
  · rw [if_neg (by omega)]; congr 1; omega
  · rw [if_pos (by omega), w64s _ (by omega) (by omega)]; congr 1; omega
/-- The entry of a place. -/
def ent (l : List Int) (k : Nat) : S31 := ⟨10 * (k : Int) + 5, 3, (Int.tmod (rd l (k : Int)) 2 == 0)⟩
theorem ent_lt (l : List Int) {i j : Nat} (h : i < j) : ordE (ent l i) (ent l j) < 0 := by
  unfold ordE ent
  rw [if_pos (show 10 * (i : Int) + 5 < 10 * (j : Int) + 5 by omega)]; omega
theorem ent_gt (l : List Int) {i j : Nat} (h : i < j) : ordE (ent l j) (ent l i) = 1 := by
  unfold ordE ent
  rw [if_neg (show ¬ 10 * (j : Int) + 5 < 10 * (i : Int) + 5 by omega), if_pos (show 10 * (i : Int) + 5 < 10 * (j : Int) + 5 by omega)]
theorem ent_ok (l : List Int) (k : Nat) (h : k < 20) : okE (ent l k) := by unfold okE ent; simp only []; omega
theorem pos_all (x : S31) : ∀ es : List S31, (∀ y ∈ es, ordE y x < 0) → posE x es = es.length
  | [], _ => rfl
  | y :: l, h => by
    simp only [posE]
    rw [if_pos (h y (List.mem_cons_self ..)), pos_all x l (fun z hz => h z (List.mem_cons_of_mem _ hz))]; rfl
theorem pos_none (x y : S31) (l : List S31) (h : ¬ ordE y x < 0) : posE x (y :: l) = 0 := by
  simp only [posE]; rw [if_neg h]
theorem add_end (x : S31) (es : List S31) (hx : okE x) (hl : es.length < 64) (h : ∀ y ∈ es, ordE y x < 0) : addE es x = (es ++ [x], none) := by
  have hp := pos_all x es h
  have hi : isE x es = false := by unfold isE; rw [hp]; exact decide_eq_false (fun c => absurd c.1 (by omega))
  unfold addE
  rw [if_pos hx, hi, if_neg (by simp), if_neg (by omega), hp]
  unfold insE
  rw [List.take_length, List.drop_length]
theorem add_front (x : S31) (es : List S31) (hx : okE x) (hl : es.length < 64) (h : ∀ y ∈ es, ordE y x = 1) : addE es x = (x :: es, none) := by
  have hp : posE x es = 0 := by
    cases es with
    | nil => rfl
    | cons y l => exact pos_none x y l (by rw [h y (List.mem_cons_self ..)]; omega)
  have hi : isE x es = false := by
    unfold isE
    rw [hp]
    refine decide_eq_false fun c => ?_
    cases es with
    | nil => exact absurd c.1 (by simp)
    | cons y l =>
      have := h y (List.mem_cons_self ..)
      have e : rd_T31 (y :: l) ((0 : Nat) : Int) = y := rfl
      rw [e] at c
      omega
  unfold addE
  rw [if_pos hx, hi, if_neg (by simp), if_neg (by omega), hp]
  rfl
/-- The entries of the places from a on, d of them. -/
def ents (l : List Int) (a d : Nat) : List S31 := (List.range' a d).map (ent l)
theorem ents_len (l : List Int) (a d : Nat) : (ents l a d).length = d := by unfold ents; rw [List.length_map, List.length_range']
theorem ents_snoc (l : List Int) (a d : Nat) : ents l a (d + 1) = ents l a d ++ [ent l (a + d)] := by
  unfold ents
  rw [List.range'_concat, List.map_append]; simp
theorem ents_cons (l : List Int) (a d : Nat) : ents l a (d + 1) = ent l a :: ents l (a + 1) d := by
  unfold ents
  rw [List.range'_succ, List.map_cons]
theorem ents_mem (l : List Int) (a d : Nat) : ∀ y ∈ ents l a d, ∃ j, a ≤ j ∧ j < a + d ∧ y = ent l j := fun y hy => by
  unfold ents at hy
  obtain ⟨j, hj, rfl⟩ := List.mem_map.1 hy
  have := List.mem_range'_1.1 hj
  exact ⟨j, this.1, this.2, rfl⟩
theorem turn_f (l : List Int) (i : Nat) : turnX l false i = ent l i := by unfold turnX turnK ent; rw [if_neg (by simp)]
theorem turn_t (l : List Int) (i : Nat) : turnX l true i = ent l (l.length - 1 - i) := by unfold turnX turnK ent; rw [if_pos rfl]
theorem E_f (l : List Int) (hl : l.length ≤ 20) : ∀ i, i ≤ l.length → turnE l false i = ents l 0 i ∧ ∀ j, j < i → (addE (turnE l false j) (turnX l false j)).2 = none
  | 0, _ => ⟨rfl, fun j hj => absurd hj (by omega)⟩
  | i + 1, hi => by
    obtain ⟨h1, h2⟩ := E_f l hl i (by omega)
    have ha := add_end (ent l i) (ents l 0 i) (ent_ok l i (by omega)) (by rw [ents_len]; omega) (fun y hy => by
      obtain ⟨j, _, h, rfl⟩ := ents_mem l 0 i y hy
      exact ent_lt l (by omega))
    refine ⟨?_, fun j hj => ?_⟩
    · rw [turnE_succ, h1, turn_f, ha, ents_snoc, Nat.zero_add]
    · by_cases c : j < i
      · exact h2 j c
      · obtain rfl : j = i := by omega
        rw [h1, turn_f, ha]
theorem E_t (l : List Int) (hl : l.length ≤ 20) : ∀ i, i ≤ l.length → turnE l true i = ents l (l.length - i) i ∧ ∀ j, j < i → (addE (turnE l true j) (turnX l true j)).2 = none
  | 0, _ => ⟨rfl, fun j hj => absurd hj (by omega)⟩
  | i + 1, hi => by
    obtain ⟨h1, h2⟩ := E_t l hl i (by omega)
    have ha := add_front (ent l (l.length - 1 - i)) (ents l (l.length - i) i) (ent_ok l _ (by omega)) (by rw [ents_len]; omega) (fun y hy => by
      obtain ⟨j, h, _, rfl⟩ := ents_mem l _ i y hy
      exact ent_gt l (by omega))
    refine ⟨?_, fun j hj => ?_⟩
    · rw [turnE_succ, h1, turn_t, ha, ents_cons, show l.length - (i + 1) = l.length - 1 - i by omega, show l.length - 1 - i + 1 = l.length - i by omega]
    · by_cases c : j < i
      · exact h2 j c
      · obtain rfl : j = i := by omega
        rw [h1, turn_t, ha]
theorem on_snoc (cl td : Int) (x : S31) : ∀ (a : List S31) (b : Bool), onF cl td (a ++ [x]) b = if x.f1 = cl ∧ x.f0 ≤ td then x.f2 else onF cl td a b
  | [], b => rfl
  | y :: a, b => by
    rw [List.cons_append]
    simp only [onF]
    exact on_snoc cl td x a _
theorem on_other (td : Int) : ∀ (a : List S31), (∀ y ∈ a, y.f1 = 3) → onF 4 td a false = false
  | [], _ => rfl
  | y :: a, h => by
    simp only [onF]
    rw [if_neg (by rw [h y (List.mem_cons_self ..)]; omega)]
    exact on_other td a (fun z hz => h z (List.mem_cons_of_mem _ hz))
theorem next_t (cl td : Int) (on : Bool) (x : S31) : ∀ (a : List S31), (nextF cl td on a).2 = true → nextF cl td on (a ++ [x]) = nextF cl td on a
  | [], h => absurd h (by simp [nextF])
  | y :: a, h => by
    rw [List.cons_append]
    simp only [nextF] at h ⊢
    by_cases c : y.f1 = cl ∧ td < y.f0 ∧ y.f2 ≠ on
    · rw [if_pos c, if_pos c]
    · rw [if_neg c] at h
      rw [if_neg c, if_neg c]
      exact next_t cl td on x a h
theorem next_f (cl td : Int) (on : Bool) (x : S31) : ∀ (a : List S31), (nextF cl td on a).2 = false → nextF cl td on (a ++ [x]) = if x.f1 = cl ∧ td < x.f0 ∧ x.f2 ≠ on then (x.f0, true) else (0, false)
  | [], _ => by
    rw [List.nil_append]
    simp only [nextF]
  | y :: a, h => by
    rw [List.cons_append]
    simp only [nextF] at h ⊢
    by_cases c : y.f1 = cl ∧ td < y.f0 ∧ y.f2 ≠ on
    · rw [if_pos c] at h; exact absurd h (by simp)
    · rw [if_neg c] at h
      rw [if_neg c]
      exact next_f cl td on x a h
theorem next_none (cl td : Int) (on : Bool) : ∀ (a : List S31), (∀ y ∈ a, y.f0 ≤ td) → nextF cl td on a = (0, false)
  | [], _ => rfl
  | y :: a, h => by
    simp only [nextF]
    rw [if_neg (fun c => by have := h y (List.mem_cons_self ..); omega)]
    exact next_none cl td on a (fun z hz => h z (List.mem_cons_of_mem _ hz))
theorem turn_is (l : List Int) (t : Int) : ∀ i : Nat, onF 3 t (ents l 0 i) false = (turnW l t i).1 ∧ ((turnW l t i).2 ≥ 0 → t < 10 * (i : Int)) ∧
    nextF 3 t (turnW l t i).1 (ents l 0 i) = if (turnW l t i).2 < 0 then (0, false) else ((turnW l t i).2, true)
  | 0 => by
    refine ⟨rfl, fun h => absurd h (by simp [turnW]), ?_⟩
    simp [turnW, ents, nextF]
  | i + 1 => by
    obtain ⟨h1, h2, h3⟩ := turn_is l t i
    have hw : turnW l t (i + 1) = if 10 * (i : Int) + 5 ≤ t then ((Int.tmod (rd l (i : Int)) 2 == 0), (turnW l t i).2) else if (turnW l t i).2 < 0 ∧ ((Int.tmod (rd l (i : Int)) 2 == 0) != (turnW l t i).1) = true then ((turnW l t i).1, 10 * (i : Int) + 5) else turnW l t i := by rw [turnW]
    rw [ents_snoc, Nat.zero_add, on_snoc, h1]
    have e0 : (ent l i).f0 = 10 * (i : Int) + 5 := rfl
    have e1 : (ent l i).f1 = 3 := rfl
    have e2 : (ent l i).f2 = (Int.tmod (rd l (i : Int)) 2 == 0) := rfl
    have hnf := fun on => next_f 3 t on (ent l i) (ents l 0 i)
    have hnt := fun on => next_t 3 t on (ent l i) (ents l 0 i)
    rw [e0, e1, e2] at *
    rw [hw]
    generalize (Int.tmod (rd l (i : Int)) 2 == 0) = ev at *
    by_cases c : 10 * (i : Int) + 5 ≤ t
    · have hne : (turnW l t i).2 < 0 := by omega
      have hn := next_none 3 t ev (ents l 0 i) (fun y hy => by
        obtain ⟨j, _, h, rfl⟩ := ents_mem l 0 i y hy
        show 10 * (j : Int) + 5 ≤ t
        omega)
      rw [if_pos c, if_pos ⟨rfl, c⟩]
      refine ⟨rfl, fun h => ?_, ?_⟩
      · have h' : (turnW l t i).2 ≥ 0 := h
        omega
      · show nextF 3 t ev (ents l 0 i ++ [ent l i]) = if (turnW l t i).2 < 0 then _ else _
        rw [hnf ev (by rw [hn]), if_neg (by omega), if_pos hne]
    · rw [if_neg c, if_neg (fun z => c z.2)]
      clear hw h1 e0 e1 e2
      generalize turnW l t i = p at h2 h3 ⊢
      obtain ⟨wa, ne⟩ := p
      simp only [] at h2 h3 ⊢
      by_cases c2 : ne < 0
      · rw [if_pos c2] at h3
        by_cases c3 : (ev != wa) = true
        · rw [if_pos ⟨c2, c3⟩]
          refine ⟨rfl, fun _ => by show t < 10 * ((i + 1 : Nat) : Int); omega, ?_⟩
          simp only []
          rw [hnf wa (by rw [h3]), if_pos ⟨rfl, by omega, bne_iff_ne.1 c3⟩, if_neg (by omega)]
        · rw [if_neg (fun z => c3 z.2)]
          refine ⟨rfl, fun h => by omega, ?_⟩
          simp only []
          rw [hnf wa (by rw [h3]), if_neg (fun z => c3 (bne_iff_ne.2 z.2.2)), if_pos c2]
      · rw [if_neg c2] at h3
        rw [if_neg (fun z => c2 z.1)]
        refine ⟨rfl, fun _ => by show t < 10 * ((i + 1 : Nat) : Int); omega, ?_⟩
        simp only []
        rw [hnt wa (by rw [h3]), h3, if_neg c2]
theorem turn_ok (l : List Int) (hl : l.length ≤ 20) (t : Int) (tb : Bool) : turnOK l t tb := by
  have hE : turnE l tb l.length = ents l 0 l.length ∧ ∀ j, j < l.length → (addE (turnE l tb j) (turnX l tb j)).2 = none := by
    cases tb with
    | true =>
      have := E_t l hl l.length (Nat.le_refl _)
      rw [Nat.sub_self] at this
      exact this
    | false => exact E_f l hl l.length (Nat.le_refl _)
  obtain ⟨h1, h2, h3⟩ := turn_is l t l.length
  unfold turnOK
  rw [hE.1, h1, h3]
  refine ⟨hE.2, rfl, on_other t _ (fun y hy => by obtain ⟨j, _, _, rfl⟩ := ents_mem l _ _ y hy; rfl), ?_, fun h => ?_⟩
  · by_cases c : (turnW l t l.length).2 < 0
    · rw [if_pos c, decide_eq_false (by omega)]
    · rw [if_neg c, decide_eq_true (by omega)]
  · by_cases c : (turnW l t l.length).2 < 0
    · rw [if_pos c] at h; exact absurd h (by simp)
    · rw [if_neg c]
end Go.Proofs.YtlomknhkbhibfaaDoor.PrSchedTurns
namespace Go.Proofs.YtlomknhkbhibfaaDoor.Pr
open Go.RowKit Go.Proofs.YtlomknhkbhibfaaDoor.ESchedTurns Go.Proofs.YtlomknhkbhibfaaDoorW.PrintWords Go.Proofs.YtlomknhkbhibfaaDoorW.PrintLast Go.Proofs.YtlomknhkbhibfaaDoorW.PrintMore Go.Proofs.YtlomknhkbhibfaaDoorW.PrintOpen Go.Proofs.YtlomknhkbhibfaaDoor.PrSchedTurns
theorem SchedTurns : pledgelaw11_SchedTurns.Pure := by
  intro l a tb _ _ _
  unfold pledgelaw11_SchedTurns.f
  by_cases h : 20 < l.length
  · rw [if_pos h]
  · rw [if_neg h, number_eq a 250 (by omega) (by omega), Option.bind_some, if_pos (turn_ok l (by omega) _ tb)]
end Go.Proofs.YtlomknhkbhibfaaDoor.Pr
