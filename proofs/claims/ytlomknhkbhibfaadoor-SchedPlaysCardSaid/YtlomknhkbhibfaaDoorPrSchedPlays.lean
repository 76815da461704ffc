/- Whatever entries are added: all of them, what is eligible on any day, when that turns next, each answer, are what the chapter says: the pure statement of SchedPlays, for all rows. Conditions: none beyond the statement's own. -/
import Derived.Test.YtlomknhkbhibfaaDoorESchedPlaysx
import Derived.Test.YtlomknhkbhibfaaDoorOpen
namespace Go.Proofs.YtlomknhkbhibfaaDoor.PrSchedPlays
open Go.RowKit Go.Proofs.YtlomknhkbhibfaaDoor.ESchedPlays Go.Proofs.YtlomknhkbhibfaaDoorW.PrintWords Go.Proofs.YtlomknhkbhibfaaDoorW.PrintLast Go.Proofs.YtlomknhkbhibfaaDoorW.PrintMore Go.Proofs.YtlomknhkbhibfaaDoorW.PrintOpen
set_option linter.unusedSimpArgs false
set_option linter.unusedVariables false
theorem w64 (x : Int) (h1 : -9223372036854775808 ≤ x) (h2 : x ≤ 9223372036854775807) : wrap64 x = x := by unfold wrap64; omega
theorem w64s (x : Int) (h1 : -1000000000 ≤ x) (h2 : x ≤ 1000000000) : wrap64 x = x := by unfold wrap64; omega
theorem wu64 (n : Int) : IntKind.u64.wrap n = n % 18446744073709551616 := by simp [IntKind.wrap, IntKind.bits, IntKind.signed]
theorem rd_nat (l : List Int) (i : Nat) : rd l (i : Int) = l.getD i 0 := by unfold rd; rw [Int.toNat_natCast]
theorem rd_mem (l : List Int) (i : Nat) (h : i < l.length) : rd l (i : Int) ∈ l := by
  rw [rd_nat, List.getD_eq_getElem?_getD, List.getElem?_eq_getElem h]; exact List.getElem_mem h
theorem take_snoc_sum (l : List Int) (i : Nat) (h : i < l.length) : (l.take (i + 1)).sum = (l.take i).sum + rd l (i : Int) := by
  rw [List.take_succ_eq_append_getElem h, List.sum_append, rd_nat, List.getD_eq_getElem?_getD, List.getElem?_eq_getElem h]; simp
theorem Is_none (code : Int) : pledgesee_Is.f none code = some (decide (0 = code)) := by
  unfold pledgesee_Is.f pledgeref_Bare.f pledgesee_Same.f pledgesee_Fault.f pledgeref_None.f pledgeref_SameFault.f
  by_cases h : 0 = code <;> simp [h]
theorem Is_some (c code : Int) (h1 : 101 ≤ c) (h2 : c ≤ 121) : pledgesee_Is.f (some c) code = some (decide (c = code)) := by
  unfold pledgesee_Is.f pledgeref_Bare.f pledgesee_Same.f pledgesee_Fault.f pledgesee_sentinel.f pledgeref_Bare.f pledgeref_SameFault.f
  by_cases h : c = code <;> simp [h, h1, h2] <;> simp [← h, h1, h2]
theorem wS (i : Nat) (h : i < 1000) : wrap64 ((i : Int) + 1) = ((i + 1 : Nat) : Int) := by rw [w64s _ (by omega) (by omega)]; omega
theorem copy_go (es : List S31) (hl : es.length ≤ 64) : ∀ (d i K : Nat), i + d = es.length → d < K → pledgeref_Entrys.l0 K es (es.take i) (i : Int) = some es
  | 0, i, K, hi, hK => by
    obtain ⟨K, rfl⟩ : ∃ m, K = m + 1 := ⟨K - 1, by omega⟩
    simp only [pledgeref_Entrys.l0]
    rw [if_neg (by omega), List.take_of_length_le (by omega)]
  | d + 1, i, K, hi, hK => by
    obtain ⟨K, rfl⟩ : ∃ m, K = m + 1 := ⟨K - 1, by omega⟩
    have ih := copy_go es hl d (i + 1) K (by omega) (by omega)
    have ht : es.take i ++ [(⟨(rd_T31 es (i : Int)).f0, (rd_T31 es (i : Int)).f1, (rd_T31 es (i : Int)).f2⟩ : S31)] = es.take (i + 1) := by
      rw [List.take_succ_eq_append_getElem (by omega), ← rdE es i (by omega)]
    have hlt : (es.take i).length < 5864062014805 := by rw [List.length_take]; omega
    simp only [pledgeref_Entrys.l0]
    rw [if_pos (by omega), if_pos (by omega), if_pos hlt, ht, wS i (by omega)]
    exact ih
theorem copy_eq (es : List S31) (hl : es.length ≤ 64) (k : Nat) (hk : 100 < k) : pledgeref_Entrys.f k es = some es := by
  unfold pledgeref_Entrys.f
  rw [if_pos (by omega), if_pos (by omega)]
  exact copy_go es hl es.length 0 k (by omega) (by omega)
theorem on_go (es : List S31) (hl : es.length ≤ 64) (cl td : Int) : ∀ (d i K : Nat) (b : Bool), i + d = es.length → d < K → pledgeref10_On.l0 K es cl td b (i : Int) = some (onF cl td (es.drop i) b)
  | 0, i, K, b, hi, hK => by
    obtain ⟨K, rfl⟩ : ∃ m, K = m + 1 := ⟨K - 1, by omega⟩
    simp only [pledgeref10_On.l0]
    rw [if_neg (by omega), List.drop_of_length_le (by omega)]; rfl
  | d + 1, i, K, b, hi, hK => by
    obtain ⟨K, rfl⟩ : ∃ m, K = m + 1 := ⟨K - 1, by omega⟩
    have ih := fun b => on_go es hl cl td d (i + 1) K b (by omega) (by omega)
    rw [drop_T es i (by omega)]
    simp only [pledgeref10_On.l0, onF]
    rw [if_pos (by omega), if_pos (by omega), wS i (by omega)]
    by_cases c : (rd_T31 es (i : Int)).f1 = cl
    · rw [if_pos c]
      by_cases c2 : (rd_T31 es (i : Int)).f0 ≤ td
      · rw [if_pos c2, if_pos ⟨c, c2⟩]; exact ih _
      · rw [if_neg c2, if_neg (fun z => c2 z.2)]; exact ih _
    · rw [if_neg c, if_neg (fun z => c z.1)]; exact ih _
theorem on_eq (es : List S31) (hl : es.length ≤ 64) (cl td : Int) (k : Nat) (hk : 100 < k) : pledgeref10_On.f k es cl td = some (onF cl td es false) := by
  unfold pledgeref10_On.f
  exact on_go es hl cl td es.length 0 k false (by omega) (by omega)
theorem next_go (es : List S31) (hl : es.length ≤ 64) (cl td : Int) (on : Bool) : ∀ (d i K : Nat), i + d = es.length → d < K → pledgeref10_Next.l0 K es cl td on (i : Int) = some (nextF cl td on (es.drop i))
  | 0, i, K, hi, hK => by
    obtain ⟨K, rfl⟩ : ∃ m, K = m + 1 := ⟨K - 1, by omega⟩
    simp only [pledgeref10_Next.l0]
    rw [if_neg (by omega), List.drop_of_length_le (by omega)]; rfl
  | d + 1, i, K, hi, hK => by
    obtain ⟨K, rfl⟩ : ∃ m, K = m + 1 := ⟨K - 1, by omega⟩
    have ih := next_go es hl cl td on d (i + 1) K (by omega) (by omega)
    rw [drop_T es i (by omega)]
    simp only [pledgeref10_Next.l0, nextF]
    rw [if_pos (by omega), if_pos (by omega), wS i (by omega)]
    by_cases c : (rd_T31 es (i : Int)).f1 = cl
    · rw [if_pos c]
      by_cases c2 : (rd_T31 es (i : Int)).f0 > td
      · rw [if_pos c2]
        by_cases c3 : ((rd_T31 es (i : Int)).f2 != on) = true
        · rw [if_pos c3, if_pos ⟨c, c2, bne_iff_ne.1 c3⟩]
        · rw [if_neg c3, if_neg (fun z => c3 (bne_iff_ne.2 z.2.2))]; exact ih
      · rw [if_neg c2, if_neg (fun z => c2 z.2.1)]; exact ih
    · rw [if_neg c, if_neg (fun z => c z.1)]; exact ih
theorem next_eq (es : List S31) (hl : es.length ≤ 64) (cl td : Int) (k : Nat) (hk : 100 < k) : pledgeref10_Next.f k es cl td = some (nextF cl td (onF cl td es false) es) := by
  unfold pledgeref10_Next.f
  rw [on_eq es hl cl td k hk, Option.bind_some]
  exact next_go es hl cl td _ es.length 0 k (by omega) (by omega)
theorem same_go (es : List S31) (hl : es.length ≤ 64) : ∀ (d i K : Nat), i + d = es.length → d < K → pledgeref_SameEntrys.l0 K es es (i : Int) = some true
  | 0, i, K, hi, hK => by
    obtain ⟨K, rfl⟩ : ∃ m, K = m + 1 := ⟨K - 1, by omega⟩
    simp only [pledgeref_SameEntrys.l0]
    rw [if_neg (by omega)]
  | d + 1, i, K, hi, hK => by
    obtain ⟨K, rfl⟩ : ∃ m, K = m + 1 := ⟨K - 1, by omega⟩
    have ih := same_go es hl d (i + 1) K (by omega) (by omega)
    have h1 : pledgeref_SameEntry.f (rd_T31 es (i : Int)).f0 (rd_T31 es (i : Int)).f1 (rd_T31 es (i : Int)).f2 (rd_T31 es (i : Int)).f0 (rd_T31 es (i : Int)).f1 (rd_T31 es (i : Int)).f2 = some true := by
      unfold pledgeref_SameEntry.f
      rw [if_pos rfl, if_pos rfl]; simp
    simp only [pledgeref_SameEntrys.l0]
    rw [if_pos (by omega), if_pos (by omega), if_pos (by omega), h1, Option.bind_some, if_pos rfl, wS i (by omega)]
    exact ih
theorem same_eq (es : List S31) (hl : es.length ≤ 64) (k : Nat) (hk : 100 < k) : pledgeref_SameEntrys.f k es es = some true := by
  unfold pledgeref_SameEntrys.f
  rw [if_pos rfl]
  exact same_go es hl es.length 0 k (by omega) (by omega)
theorem ahead_eq (x y : S31) : pledgeref10_ahead.f x.f0 x.f1 x.f2 y.f0 y.f1 y.f2 = some (decide (ordE x y < 0)) := by
  unfold pledgeref10_ahead.f
  by_cases h1 : x.f0 < y.f0
  · rw [if_pos h1, decide_eq_true ((ord_lt x y).2 (Or.inl h1))]
  · rw [if_neg h1]
    by_cases h2 : x.f0 = y.f0
    · rw [if_pos h2]
      by_cases h3 : x.f1 < y.f1
      · rw [decide_eq_true h3, decide_eq_true ((ord_lt x y).2 (Or.inr ⟨h2, h3⟩))]
      · rw [decide_eq_false h3, decide_eq_false (fun z => by have := (ord_lt x y).1 z; unfold ltE at this; omega)]
    · rw [if_neg h2, decide_eq_false (fun z => by have := (ord_lt x y).1 z; unfold ltE at this; omega)]
theorem rvalid_t {x : S31} (h : okE x) : pledgeref10_ValidEntry.f x.f0 x.f1 x.f2 = some 0 := by
  unfold okE at h
  unfold pledgeref10_ValidEntry.f pledgeref10_in.f
  rw [if_pos (by omega), Option.bind_some, decide_eq_true h.1.2, if_pos rfl, if_pos (by omega), Option.bind_some, decide_eq_true h.2.2, if_pos rfl]
theorem rvalid_f {x : S31} (h : ¬ okE x) : pledgeref10_ValidEntry.f x.f0 x.f1 x.f2 = some 103 := by
  unfold okE at h
  unfold pledgeref10_ValidEntry.f pledgeref10_in.f
  by_cases h1 : x.f0 ≥ 0
  · rw [if_pos h1, Option.bind_some]
    by_cases h2 : x.f0 ≤ 40000
    · rw [decide_eq_true h2, if_pos rfl]
      by_cases h3 : x.f1 ≥ 1
      · rw [if_pos h3, Option.bind_some, decide_eq_false (by omega), if_neg (by simp)]
      · rw [if_neg h3, Option.bind_some, if_neg (by simp)]
    · rw [decide_eq_false h2, if_neg (by simp)]
  · rw [if_neg h1, Option.bind_some, if_neg (by simp)]
theorem l0_go (es : List S31) (hl : es.length ≤ 64) (x : S31) (c : Int) : ∀ (d i K : Nat), i + d = posE x es → pledgeref10_AddEntry.l0 (K + 1 + d) es c (i : Int) x.f0 x.f1 x.f2 = pledgeref10_AddEntry.j1 K es c (posE x es : Int) x.f0 x.f1 x.f2
  | 0, i, K, hi => by
    obtain rfl : i = posE x es := by omega
    have hle := posE_le x es
    rw [Nat.add_zero]
    generalize hR : pledgeref10_AddEntry.j1 K es c (posE x es : Int) x.f0 x.f1 x.f2 = R
    simp only [pledgeref10_AddEntry.l0]
    rw [hR]
    by_cases h : posE x es < es.length
    · have hn := posE_at x es h
      rw [if_pos (by omega), if_pos (by omega), ahead_eq, Option.bind_some, decide_eq_false (fun z => hn ((ord_lt _ _).1 z)), if_neg (by simp)]
    · rw [if_neg (by omega)]
  | d + 1, i, K, hi => by
    have ih := l0_go es hl x c d (i + 1) K (by omega)
    have hle := posE_le x es
    have ha := posE_ahead x es i (by omega)
    generalize pledgeref10_AddEntry.j1 K es c (posE x es : Int) x.f0 x.f1 x.f2 = R at *
    rw [show K + 1 + (d + 1) = (K + 1 + d) + 1 from rfl]
    generalize K + 1 + d = Q at *
    simp only [pledgeref10_AddEntry.l0]
    rw [if_pos (by omega), if_pos (by omega), ahead_eq, Option.bind_some, decide_eq_true ((ord_lt _ _).2 ha), if_pos rfl, wS i (by omega)]
    exact ih
theorem add_eq (es : List S31) (hl : es.length ≤ 64) (x : S31) (k : Nat) (hk : 1000 < k) : pledgeref10_AddEntry.f k es x.f0 x.f1 x.f2 = some ((addE es x).1, (addE es x).2.getD 0) := by
  unfold pledgeref10_AddEntry.f
  by_cases hV : okE x
  rotate_left
  · rw [rvalid_f hV, Option.bind_some, if_neg (by omega)]
    unfold addE
    rw [if_neg hV]; rfl
  rw [rvalid_t hV, Option.bind_some, if_pos rfl]
  have hle := posE_le x es
  obtain ⟨k, rfl⟩ : ∃ m, k = m + 1 + posE x es := ⟨k - posE x es - 1, by omega⟩
  have h0 := l0_go es hl x 0 (posE x es) 0 k (by omega)
  rw [show ((0 : Nat) : Int) = 0 from rfl] at h0
  rw [h0]
  have htl : (es.take (posE x es)).length = posE x es := by rw [List.length_take]; omega
  have hc := copy_eq (es.take (posE x es)) (by rw [htl]; omega)
  obtain ⟨k, rfl⟩ : ∃ m, k = m + 1 := ⟨k - 1, by omega⟩
  have hck := hc k (by omega)
  obtain ⟨k, rfl⟩ : ∃ m, k = m + 1 := ⟨k - 1, by omega⟩
  have hx : (⟨x.f0, x.f1, x.f2⟩ : S31) = x := rfl
  have hadd : addE es x = if isE x es = true then (es.set (posE x es) x, none) else if 64 ≤ es.length then (es, some 105) else (insE (posE x es) x es, none) := by unfold addE; rw [if_pos hV]
  have hyl : (es.take (posE x es) ++ [x]).length = posE x es + 1 := by rw [List.length_append, htl]; rfl
  -- there: in its place
  have jt : isE x es = true → pledgeref10_AddEntry.j2 (k + 1) es 0 (posE x es : Int) (es.take (posE x es) ++ [x]) true = some (es.set (posE x es) x, 0) := fun h => by
    obtain ⟨h1, _⟩ := of_decide_eq_true h
    simp only [pledgeref10_AddEntry.j2]
    rw [wS _ (by omega), if_pos trivial, if_pos (by omega), if_pos (by omega), Option.bind_some, Int.toNat_natCast, if_pos (by rw [hyl, List.length_drop]; omega), List.set_eq_take_append_cons_drop, if_pos h1, List.append_assoc]
    rfl
  -- not there
  have jf : isE x es = false → pledgeref10_AddEntry.j2 (k + 1) es 0 (posE x es : Int) (es.take (posE x es) ++ [x]) false = some (if 64 ≤ es.length then (es, 105) else (insE (posE x es) x es, 0)) := fun h => by
    simp only [pledgeref10_AddEntry.j2]
    rw [if_neg (by simp)]
    by_cases h64 : 64 ≤ es.length
    · rw [if_pos (by omega), if_pos h64]
    · rw [if_neg (by omega), if_pos (by omega), if_pos (by omega), Option.bind_some, Int.toNat_natCast, if_pos (by rw [hyl, List.length_drop]; omega), if_neg h64, List.append_assoc]
      rfl
  have hj2f : isE x es = false → some (if 64 ≤ es.length then (es, (105 : Int)) else (insE (posE x es) x es, 0)) = some ((addE es x).1, (addE es x).2.getD 0) := fun h => by
    have ha2 : addE es x = if 64 ≤ es.length then (es, some 105) else (insE (posE x es) x es, none) := by rw [hadd, h, if_neg (by simp)]
    rw [ha2]
    by_cases h64 : 64 ≤ es.length
    · rw [if_pos h64, if_pos h64]; rfl
    · rw [if_neg h64, if_neg h64]; rfl
  generalize hq : k + 1 = Q at jt jf hck ⊢
  simp only [pledgeref10_AddEntry.j1]
  rw [if_pos (by omega), if_pos (by omega), Int.toNat_natCast, hck, Option.bind_some, Option.bind_some, if_pos (by rw [htl]; show posE x es + 1 < _; omega), Option.bind_some, hx]
  by_cases h : posE x es < es.length
  · rw [if_pos (by omega), ahead_eq, Option.bind_some]
    have hn := posE_at x es h
    cases hF : isE x es with
    | true =>
      obtain ⟨_, h2⟩ := of_decide_eq_true hF
      have h2' := (ord_eq _ _).1 h2
      rw [decide_eq_false (fun z => by have := (ord_lt _ _).1 z; unfold ltE at this; omega)]
      show pledgeref10_AddEntry.j2 Q es 0 _ _ true = _
      rw [jt hF, hadd, hF, if_pos rfl]; rfl
    | false =>
      have hne : ¬ ordE (rd_T31 es (posE x es : Int)) x = 0 := fun e => by
        have : isE x es = true := decide_eq_true ⟨h, e⟩
        rw [this] at hF; exact absurd hF (by simp)
      rw [ord_eq] at hne
      rw [decide_eq_true ((ord_lt _ _).2 (by unfold ltE at *; omega))]
      show pledgeref10_AddEntry.j2 Q es 0 _ _ false = _
      rw [jf hF, hj2f hF]
  · have hF : isE x es = false := decide_eq_false (fun c => h c.1)
    rw [if_neg (by omega), jf hF, hj2f hF]
theorem run_len (f : Nat → S31) (i : Nat) : (runE f i).length ≤ 64 := by
  induction i with
  | zero => simp [runE]
  | succ i ih => rw [runE_succ]; exact add_len _ _ ih
theorem add_err (es : List S31) (x : S31) : pledgesee_Is.f (addE es x).2 ((addE es x).2.getD 0) = some true := by
  have h0 : pledgesee_Is.f none 0 = some true := by rw [Is_none]; rfl
  have h1 : pledgesee_Is.f (some 103) 103 = some true := by rw [Is_some 103 103 (by omega) (by omega)]; rfl
  have h2 : pledgesee_Is.f (some 105) 105 = some true := by rw [Is_some 105 105 (by omega) (by omega)]; rfl
  unfold addE
  by_cases hV : okE x
  · rw [if_pos hV]
    by_cases hF : isE x es = true
    · rw [if_pos hF]; exact h0
    · rw [if_neg hF]
      by_cases h64 : 64 ≤ es.length
      · rw [if_pos h64]; exact h2
      · rw [if_neg h64]; exact h0
  · rw [if_neg hV]; exact h1
theorem play_ok (k : Nat) (hk : 1000 < k) (l : List S31) (cl td : Int) : playOK k l cl td := by
  have hl := run_len (fun j => rd_T31 l (j : Int))
  refine ⟨fun i hi => ?_, next_eq _ (hl _) cl td k (by omega), on_eq _ (hl _) cl td k (by omega), same_eq _ (hl _) k (by omega)⟩
  have ha := add_eq (playE l i) (hl i) (rd_T31 l (i : Int)) k hk
  rw [← playE_succ] at ha
  by_cases hV : okE (rd_T31 l (i : Int))
  · exact ⟨none, 0, _, valid_t hV, rvalid_t hV, by rw [Is_none]; rfl, ha, add_err _ _⟩
  · exact ⟨some 103, 103, _, valid_f hV, rvalid_f hV, by rw [Is_some 103 103 (by omega) (by omega)]; rfl, ha, add_err _ _⟩
end Go.Proofs.YtlomknhkbhibfaaDoor.PrSchedPlays
namespace Go.Proofs.YtlomknhkbhibfaaDoor.Pr
open Go.RowKit Go.Proofs.YtlomknhkbhibfaaDoor.ESchedPlays Go.Proofs.YtlomknhkbhibfaaDoorW.PrintWords Go.Proofs.YtlomknhkbhibfaaDoorW.PrintLast Go.Proofs.YtlomknhkbhibfaaDoorW.PrintMore Go.Proofs.YtlomknhkbhibfaaDoorW.PrintOpen Go.Proofs.YtlomknhkbhibfaaDoor.PrSchedPlays
theorem SchedPlays : pledgelaw11_SchedPlays.Pure := by
  intro l cl td _ _ _ _
  refine ⟨1001, ?_⟩
  unfold pledgelaw11_SchedPlays.f
  by_cases h : 90 < l.length
  · rw [if_pos h]
  · rw [if_neg h, if_pos (play_ok 1001 (by omega) l cl td)]
end Go.Proofs.YtlomknhkbhibfaaDoor.Pr
