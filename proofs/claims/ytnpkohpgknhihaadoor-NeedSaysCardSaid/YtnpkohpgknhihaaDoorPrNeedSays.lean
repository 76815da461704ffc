/- Of any states (at most 40): the answers of the needs' package are what the chapter says: the pure statement of NeedSays, for all lists of states. Conditions: none beyond the statement's own. -/
import Derived.Test.YtnpkohpgknhihaaDoorENeedSaysx
import Derived.Test.YtnpkohpgknhihaaDoorOpen
namespace Go.Proofs.YtnpkohpgknhihaaDoor.PrNeedSays
open Go.RowKit Go.Proofs.YtnpkohpgknhihaaDoor.ENeedSays Go.Proofs.YtnpkohpgknhihaaDoorW.PrintWords Go.Proofs.YtnpkohpgknhihaaDoorW.PrintLast Go.Proofs.YtnpkohpgknhihaaDoorW.PrintMore Go.Proofs.YtnpkohpgknhihaaDoorW.PrintOpen
set_option linter.unusedSimpArgs false
set_option linter.unusedVariables false
theorem w64 (x : Int) (h1 : -9223372036854775808 ≤ x) (h2 : x ≤ 9223372036854775807) : wrap64 x = x := by unfold wrap64; omega
theorem wu64 (n : Int) : IntKind.u64.wrap n = n % 18446744073709551616 := by simp [IntKind.wrap, IntKind.bits, IntKind.signed]
theorem rd_nat (l : List Int) (i : Nat) : rd l (i : Int) = l.getD i 0 := by unfold rd; rw [Int.toNat_natCast]
theorem rd_mem (l : List Int) (i : Nat) (h : i < l.length) : rd l (i : Int) ∈ l := by
  rw [rd_nat, List.getD_eq_getElem?_getD, List.getElem?_eq_getElem h]; exact List.getElem_mem h
theorem take_snoc_sum (l : List Int) (i : Nat) (h : i < l.length) : (l.take (i + 1)).sum = (l.take i).sum + rd l (i : Int) := by
  rw [List.take_succ_eq_append_getElem h, List.sum_append, rd_nat, List.getD_eq_getElem?_getD, List.getElem?_eq_getElem h]; simp
theorem plus_eq (hi lo n : Int) (h0 : 0 ≤ lo) (h1 : lo < 18446744073709551616) (g0 : -1000000000 ≤ hi) (g1 : hi ≤ 1000000000) (n0 : -9223372036854775808 ≤ n) (n1 : n ≤ 9223372036854775807) :
    ∃ hi' lo', fix_wide_plus.f hi lo n = some (hi', lo') ∧ hi' * 18446744073709551616 + lo' = hi * 18446744073709551616 + lo + n ∧ 0 ≤ lo' ∧ lo' < 18446744073709551616 ∧ hi - 1 ≤ hi' ∧ hi' ≤ hi + 1 := by
  unfold fix_wide_plus.f
  rw [wu64]
  rw [if_pos h0, if_pos (by omega)]
  have e1 : wrap64 (hi + n / 9223372036854775808) = hi + n / 9223372036854775808 := w64 _ (by omega) (by omega)
  have e2 : wrap64 ((lo + n % 18446744073709551616) / 18446744073709551616) = (lo + n % 18446744073709551616) / 18446744073709551616 := w64 _ (by omega) (by omega)
  have e3 : wrap64 (hi + n / 9223372036854775808 + (lo + n % 18446744073709551616) / 18446744073709551616) = hi + n / 9223372036854775808 + (lo + n % 18446744073709551616) / 18446744073709551616 := w64 _ (by omega) (by omega)
  rw [e1, e2, e3]
  exact ⟨_, _, rfl, by omega, by omega, by omega, by omega, by omega⟩
theorem sum_l0 (l : List Int) (hl : l.length ≤ 90000) (hr : ∀ x ∈ l, Rng .i64 x) : ∀ (d i k : Nat) (hi lo : Int), l.length - i = d → i ≤ l.length → d < k → 0 ≤ lo → lo < 18446744073709551616 → -(i : Int) ≤ hi → hi ≤ i →
    hi * 18446744073709551616 + lo = (l.take i).sum → fix_Sum.l0 k l (l.length : Int) (i : Int) hi lo = some (if -9223372036854775808 ≤ l.sum ∧ l.sum ≤ 9223372036854775807 then (l.sum, true) else (0, false)) := by
  intro d
  induction d with
  | zero =>
    intro i k hi lo hd hi0 hk l0 l1 g0 g1 hs
    obtain ⟨k, rfl⟩ : ∃ m, k = m + 1 := ⟨k - 1, by omega⟩
    simp only [fix_Sum.l0]
    rw [if_neg (by omega)]
    have e : (l.take i).sum = l.sum := by rw [List.take_of_length_le (by omega)]
    rw [e] at hs
    by_cases hc : -9223372036854775808 ≤ l.sum ∧ l.sum ≤ 9223372036854775807
    · rw [if_pos hc]
      have e1 : wrap64 lo = l.sum := by unfold wrap64; omega
      rw [e1, if_pos (by omega)]
    · rw [if_neg hc, if_neg (by unfold wrap64; omega)]
  | succ d ih =>
    intro i k hi lo hd hi0 hk l0 l1 g0 g1 hs
    obtain ⟨k, rfl⟩ : ∃ m, k = m + 1 := ⟨k - 1, by omega⟩
    have a0 : i < l.length := by omega
    have a1 : l.length - (i + 1) = d := by omega
    have a3 : d < k := by omega
    have ew : wrap64 ((i : Int) + 1) = ((i + 1 : Nat) : Int) := by unfold wrap64; omega
    clear hd hi0 hk
    simp only [fix_Sum.l0]
    rw [if_pos (by omega), if_pos (by omega), if_pos (by omega)]
    obtain ⟨n0, n1⟩ : -9223372036854775808 ≤ rd l (i : Int) ∧ rd l (i : Int) ≤ 9223372036854775807 := hr _ (rd_mem l i a0)
    obtain ⟨hi', lo', e, e2, q0, q1, q2, q3⟩ := plus_eq hi lo (rd l (i : Int)) l0 l1 (by omega) (by omega) n0 n1
    rw [e]
    simp only [Option.bind_some]
    rw [ew]
    have hs' : hi' * 18446744073709551616 + lo' = (l.take (i + 1)).sum := by rw [take_snoc_sum l i a0, e2, hs]
    clear e2 hs n0 n1 e ew
    exact ih (i + 1) k hi' lo' a1 a0 a3 q0 q1 (by omega) (by omega) hs'
theorem fix_Sum_eq (l : List Int) (hl : l.length ≤ 90000) (hr : ∀ x ∈ l, Rng .i64 x) (k : Nat) (hk : l.length < k) :
    fix_Sum.f k l = some (if -9223372036854775808 ≤ l.sum ∧ l.sum ≤ 9223372036854775807 then (l.sum, true) else (0, false)) := by
  unfold fix_Sum.f
  exact sum_l0 l hl hr l.length 0 k 0 0 (by omega) (by omega) hk (by omega) (by omega) (by omega) (by omega) (by simp)
/-- An amount. -/
def Am (a : Int) : Prop := 0 ≤ a ∧ a ≤ 1000000000000000
instance (a : Int) : Decidable (Am a) := by unfold Am; infer_instance
/-- What one amount has above another one. -/
def ab (a b : Int) : Int := if b < a then a - b else 0
theorem amount_eq (a : Int) : need_amount.f a = some (decide (Am a)) := by
  unfold need_amount.f
  by_cases h : a ≥ 0
  · rw [if_pos h]; exact congrArg some (decide_eq_decide.2 (by unfold Am; omega))
  · rw [if_neg h, decide_eq_false (by unfold Am; omega)]
theorem above_eq (a b : Int) : need_above.f a b = some (if Am a ∧ Am b then ab a b else 0) := by
  unfold need_above.f
  simp only [amount_eq, Option.bind_some, decide_eq_true_eq]
  by_cases h1 : Am a
  · by_cases h2 : Am b
    · rw [if_pos h1, if_pos h2, if_pos ⟨h1, h2⟩]
      congr 1
      unfold Am at h1 h2
      unfold mx wrap64 ab
      split <;> split <;> omega
    · rw [if_pos h1, if_neg h2, if_neg (fun h => h2 h.2)]
  · rw [if_neg h1, if_neg (fun h => h1 h.1)]
theorem short_eq (n h : Int) : need_Short.f n h = some (if Am n ∧ Am h then ab n h else 0) := by
  unfold need_Short.f; rw [above_eq]; rfl
theorem first_eq : pledgelaw17_first.f = some true := by
  unfold pledgelaw17_first.f; rw [short_eq]; rfl
/-- A state that may be; what it lacks. -/
def vS (x : S23) : Prop := Am x.f0 ∧ Am x.f1
instance (x : S23) : Decidable (vS x) := by unfold vS; infer_instance
def sv (x : S23) : Int := ab x.f0 x.f1
theorem sv_bd (x : S23) (h : vS x) : 0 ≤ sv x ∧ sv x ≤ 1000000000000000 := by
  obtain ⟨h1, h2⟩ := h; unfold Am at h1 h2; unfold sv ab; split <;> omega
theorem sum_bd : ∀ (l : List S23), (∀ x ∈ l, vS x) → 0 ≤ (l.map sv).sum ∧ (l.map sv).sum ≤ l.length * 1000000000000000
  | [], _ => by simp
  | x :: r, h => by
    have h1 := sv_bd x (h x (by simp))
    have h2 := sum_bd r (fun y hy => h y (by simp [hy]))
    simp only [List.map_cons, List.sum_cons, List.length_cons]
    omega
theorem short_S (x : S23) : need_Short.f x.f0 x.f1 = some (if vS x then sv x else 0) := short_eq _ _
theorem spare_eq (n h : Int) : need_Spare.f n h = some (if Am h ∧ Am n then ab h n else 0) := by
  unfold need_Spare.f; rw [above_eq]; rfl
theorem valid_eq (n h : Int) : pledgelaw17_valid.f n h = some (decide (Am n ∧ Am h)) := by
  unfold pledgelaw17_valid.f Am
  repeat' split
  all_goals (congr 1; rw [Bool.eq_iff_iff]; simp; try omega)
theorem Valid_eq (n h : Int) : need_Valid.f n h = some (if Am n ∧ Am h then none else some 103) := by
  unfold need_Valid.f
  simp only [amount_eq, Option.bind_some, decide_eq_true_eq]
  by_cases h1 : Am n <;> by_cases h2 : Am h <;> simp [h1, h2]
theorem Bound_eq (n h : Int) : need_Bound.f n h = some (decide ((if Am n ∧ Am h then ab n h else 0) > 0)) := by
  unfold need_Bound.f; rw [short_eq]; rfl
theorem rdT_nat (l : List S23) (i : Nat) (h : i < l.length) : rd_T23 l (i : Int) = l[i] := by
  unfold rd_T23; rw [Int.toNat_natCast, List.getD_eq_getElem?_getD, List.getElem?_eq_getElem h]; rfl
/-- The worst, from a place on. -/
def wfold : List S23 → Int → Int → Int → Int × Int
  | [], _, b, m => (b, m)
  | x :: r, i, b, m => if (if vS x then sv x else 0) > m then wfold r (i + 1) i (if vS x then sv x else 0) else wfold r (i + 1) b m
theorem worst_l0 (l : List S23) (hl : l.length ≤ 90000) : ∀ (d i k : Nat) (b m : Int), l.length - i = d → i ≤ l.length → d < k →
    need_Worst.l0 k b m l (l.length : Int) (i : Int) = some ((wfold (l.drop i) i b m).1, decide ((wfold (l.drop i) i b m).2 > 0)) := by
  intro d
  induction d with
  | zero =>
    intro i k b m hd hi hk
    obtain ⟨k, rfl⟩ : ∃ m, k = m + 1 := ⟨k - 1, by omega⟩
    simp only [need_Worst.l0]
    rw [if_neg (by omega), List.drop_of_length_le (by omega)]
    rfl
  | succ d ih =>
    intro i k b m hd hi hk
    obtain ⟨k, rfl⟩ : ∃ m, k = m + 1 := ⟨k - 1, by omega⟩
    simp only [need_Worst.l0]
    rw [if_pos (by omega), if_pos (by omega), if_pos (by omega), rdT_nat l i (by omega), short_S]
    simp only [Option.bind_some]
    have ew : wrap64 ((i : Int) + 1) = ((i + 1 : Nat) : Int) := by unfold wrap64; omega
    have ew2 : wfold (l.drop i) i b m = if (if vS l[i] then sv l[i] else 0) > m then wfold (l.drop (i + 1)) ((i + 1 : Nat) : Int) i (if vS l[i] then sv l[i] else 0) else wfold (l.drop (i + 1)) ((i + 1 : Nat) : Int) b m := by
      rw [List.drop_eq_getElem_cons (by omega)]; rfl
    rw [ew, ew2]
    by_cases h : (if vS l[i] then sv l[i] else 0) > m
    · rw [if_pos h, if_pos h]; exact ih (i + 1) k _ _ (by omega) (by omega) (by omega)
    · rw [if_neg h, if_neg h]; exact ih (i + 1) k _ _ (by omega) (by omega) (by omega)
theorem Worst_eq (l : List S23) (hl : l.length ≤ 90000) (k : Nat) (hk : l.length < k) : need_Worst.f k l = some ((wfold l 0 0 0).1, decide ((wfold l 0 0 0).2 > 0)) := by
  unfold need_Worst.f
  have := worst_l0 l hl l.length 0 k 0 0 (by omega) (by omega) hk
  simpa using this
theorem all_take (l : List S23) (i : Nat) (h : i < l.length) (hv : ∀ x ∈ l.take i, vS x) (hx : vS l[i]) : ∀ x ∈ l.take (i + 1), vS x := by
  intro x hm
  rw [List.take_succ_eq_append_getElem h] at hm
  rcases List.mem_append.1 hm with h1 | h1
  · exact hv x h1
  · rw [List.mem_singleton.1 h1]; exact hx
theorem total_l0 (l : List S23) (hl : l.length ≤ 900) : ∀ (d i k : Nat), l.length - i = d → i ≤ l.length → d + l.length + 1 < k → (∀ x ∈ l.take i, vS x) →
    need_Total.l0 k ((l.take i).map sv) l (l.length : Int) (i : Int) = some (if (∀ x ∈ l, vS x) then (if (l.map sv).sum ≤ 1000000000000000 then ((l.map sv).sum, none) else (0, some 104)) else (0, some 103)) := by
  intro d
  induction d with
  | zero =>
    intro i k hd hi hk hv
    obtain ⟨k, rfl⟩ : ∃ m, k = m + 1 := ⟨k - 1, by omega⟩
    simp only [need_Total.l0]
    have et : l.take i = l := List.take_of_length_le (by omega)
    rw [et] at hv ⊢
    rw [if_neg (by omega), if_pos hv, fix_Sum_eq (l.map sv) (by simp; omega) (fun x hx => by
      obtain ⟨y, hy, rfl⟩ := List.mem_map.1 hx
      have := sv_bd y (hv y hy)
      exact ⟨by omega, by omega⟩) k (by simp; omega)]
    have hb : 0 ≤ (l.map sv).sum ∧ (l.map sv).sum ≤ l.length * 1000000000000000 := sum_bd l hv
    rw [if_pos (by constructor <;> omega)]
    simp only [Option.bind_some, if_true]
    by_cases h : (l.map sv).sum ≤ 1000000000000000
    · rw [if_neg (by omega), if_pos h]
    · rw [if_pos (by omega), if_neg h]
  | succ d ih =>
    intro i k hd hi hk hv
    obtain ⟨k, rfl⟩ : ∃ m, k = m + 1 := ⟨k - 1, by omega⟩
    simp only [need_Total.l0]
    rw [if_pos (by omega), if_pos (by omega), if_pos (by omega), rdT_nat l i (by omega), Valid_eq]
    simp only [Option.bind_some]
    by_cases hx : vS l[i]
    · have hx' : Am l[i].f0 ∧ Am l[i].f1 := hx
      rw [if_pos hx']
      simp only [Option.isNone_none, if_true]
      rw [short_S, if_pos hx]
      simp only [Option.bind_some]
      rw [if_pos (by simp; omega)]
      have ew : wrap64 ((i : Int) + 1) = ((i + 1 : Nat) : Int) := by unfold wrap64; omega
      have em : (l.take i).map sv ++ [sv l[i]] = (l.take (i + 1)).map sv := by rw [List.take_succ_eq_append_getElem (by omega), List.map_append]; rfl
      rw [ew, em]
      exact ih (i + 1) k (by omega) (by omega) (by omega) (all_take l i (by omega) hv hx)
    · have hx' : ¬ (Am l[i].f0 ∧ Am l[i].f1) := hx
      rw [if_neg hx']
      have hn : ¬ ∀ x ∈ l, vS x := fun h => hx (h _ (List.getElem_mem _))
      simp only [if_neg hn, Option.isNone_some, Bool.false_eq_true, if_false, Option.getD_some]
theorem Total_eq (l : List S23) (hl : l.length ≤ 900) (k : Nat) (hk : 2 * l.length + 1 < k) :
    need_Total.f k l = some (if (∀ x ∈ l, vS x) then (if (l.map sv).sum ≤ 1000000000000000 then ((l.map sv).sum, none) else (0, some 104)) else (0, some 103)) := by
  unfold need_Total.f
  have := total_l0 l hl l.length 0 k (by omega) (by omega) (by omega) (by simp)
  simpa using this
theorem Is_none (code : Int) : pledgesee_Is.f none code = some (decide (0 = code)) := by
  unfold pledgesee_Is.f pledgeref_Bare.f pledgesee_Same.f pledgesee_Fault.f pledgeref_None.f pledgeref_SameFault.f
  by_cases h : 0 = code <;> simp [h]
theorem Is_some (c code : Int) (h1 : 101 ≤ c) (h2 : c ≤ 121) : pledgesee_Is.f (some c) code = some (decide (c = code)) := by
  unfold pledgesee_Is.f pledgeref_Bare.f pledgesee_Same.f pledgesee_Fault.f pledgesee_sentinel.f pledgeref_Bare.f pledgeref_SameFault.f
  by_cases h : c = code <;> simp [h, h1, h2] <;> simp [← h, h1, h2]
theorem wf_two : ∀ (r : List S23) (i b b' m : Int), (wfold r i b m).2 = (wfold r i b' m).2 ∧
    (((wfold r i b m).1 = (wfold r i b' m).1 ∧ i ≤ (wfold r i b m).1 ∧ m < (wfold r i b m).2) ∨ (wfold r i b m = (b, m) ∧ wfold r i b' m = (b', m)))
  | [], i, b, b', m => by simp [wfold]
  | x :: r, i, b, b', m => by
    simp only [wfold]
    generalize (if vS x then sv x else 0) = s
    by_cases h : s > m
    · simp only [if_pos h]
      obtain ⟨h1, h2 | h2⟩ := wf_two r (i + 1) i i s
      · exact ⟨trivial, .inl ⟨trivial, by omega, by omega⟩⟩
      · rw [h2.1]; exact ⟨trivial, .inl ⟨trivial, by simp, by simpa using h⟩⟩
    · simp only [if_neg h]
      obtain ⟨h1, h2 | h2⟩ := wf_two r (i + 1) b b' m
      · exact ⟨h1, .inl ⟨h2.1, by omega, h2.2.2⟩⟩
      · exact ⟨h1, .inr h2⟩
theorem ref_short (n h : Int) (hn : Am n) (hh : Am h) : pledgeref10_Short.f n h = some (ab n h) := by
  unfold pledgeref10_Short.f Am at *
  congr 1
  unfold mx wrap64 ab; split <;> split <;> omega
theorem mx_spare (n h : Int) (hn : Am n) (hh : Am h) : mx 0 (wrap64 (h - n)) = ab h n := by
  unfold Am at *
  unfold mx wrap64 ab; split <;> split <;> omega
theorem good_end (l : List S23) (hl : l.length ≤ 40) (k : Nat) (hk : 200 < k) (x4 x5 x6 : Int) (hv : ∀ x ∈ l, vS x) (hf : (x4, x5) = wfold l 0 (-1) 0) (hs : x6 = (l.map sv).sum) :
    ((need_Total.f k l).bind fun bt173 => ((need_Worst.f k l).bind fun bt176 => (if (bt176.2 != (decide (x4 ≥ 0))) = true then (pledgelaw17_NeedSays.j5 k x6 bt173.1 bt173.2 true) else (if bt176.2 = true then (pledgelaw17_NeedSays.j5 k x6 bt173.1 bt173.2 (bt176.1 != x4)) else (pledgelaw17_NeedSays.j5 k x6 bt173.1 bt173.2 false))))) = some true := by
  rw [Total_eq l (by omega) k (by omega), if_pos hv, Worst_eq l (by omega) k (by omega)]
  simp only [Option.bind_some]
  obtain ⟨h1, h2⟩ := wf_two l 0 0 (-1) 0
  rw [← hf] at h1 h2
  obtain ⟨k, rfl⟩ : ∃ m, k = m + 1 := ⟨k - 1, by omega⟩
  have hb := sum_bd l hv
  have hj : ∀ b : Bool, b = false → pledgelaw17_NeedSays.j5 (k + 1) x6 (if (l.map sv).sum ≤ 1000000000000000 then ((l.map sv).sum, (none : Option Int)) else (0, some 104)).1 (if (l.map sv).sum ≤ 1000000000000000 then ((l.map sv).sum, (none : Option Int)) else (0, some 104)).2 b = some true := by
    intro b hb
    subst hb
    simp only [pledgelaw17_NeedSays.j5]
    rw [if_neg (by simp), hs]
    by_cases hc : (l.map sv).sum ≤ 1000000000000000
    · rw [if_pos hc, if_neg (by omega)]; simp
    · rw [if_neg hc, if_pos (by omega)]
      simp only [if_true]
      rw [Is_some 104 104 (by omega) (by omega)]; rfl
  rcases h2 with ⟨e1, e2, e3⟩ | ⟨e1, e2⟩
  · have p1 : decide ((wfold l 0 0 0).2 > 0) = true := by simpa using e3
    have p2 : decide (x4 ≥ 0) = true := by simp; omega
    rw [p1, p2]
    simp only [bne_self_eq_false, Bool.false_eq_true, if_false, if_true]
    exact hj _ (by simpa using e1)
  · have e2' : x4 = -1 := congrArg Prod.fst e2
    have p1 : decide ((wfold l 0 0 0).2 > 0) = false := by rw [e1]; simp
    have p2 : decide (x4 ≥ 0) = false := by simp; omega
    rw [p1, p2]
    simp only [bne_self_eq_false, Bool.false_eq_true, if_false]
    exact hj _ rfl
theorem bad_end (l : List S23) (hl : l.length ≤ 40) (k : Nat) (hk : 200 < k) (hv : ¬ ∀ x ∈ l, vS x) :
    ((need_Total.f k l).bind fun bt173 => (if bt173.1 = 0 then ((pledgesee_Is.f bt173.2 103).bind fun t175 => (some t175)) else (some false))) = some true := by
  rw [Total_eq l (by omega) k (by omega), if_neg hv]
  simp only [Option.bind_some, if_true]
  rw [Is_some 103 103 (by omega) (by omega)]; rfl
theorem main_l0 (l : List S23) (hl : l.length ≤ 40) : ∀ (d i k : Nat) (x4 x5 x6 : Int) (x7 : Bool), l.length - i = d → i ≤ l.length → 4 * d + 300 < k →
    (x7 = true ↔ ∀ x ∈ l.take i, vS x) → (x7 = true → wfold (l.drop i) i x4 x5 = wfold l 0 (-1) 0 ∧ x6 = ((l.take i).map sv).sum) →
    pledgelaw17_NeedSays.l0 k l x4 x5 x6 x7 (i : Int) = some true := by
  intro d
  induction d with
  | zero =>
    intro i k x4 x5 x6 x7 hd hi hk h7 hs
    obtain ⟨k, rfl⟩ : ∃ m, k = m + 1 := ⟨k - 1, by omega⟩
    simp only [pledgelaw17_NeedSays.l0]
    rw [if_neg (by omega)]
    rw [List.take_of_length_le (by omega)] at h7 hs
    rw [List.drop_of_length_le (by omega)] at hs
    cases x7 with
    | true =>
      obtain ⟨hs1, hs2⟩ := hs rfl
      simp only [if_true]
      exact good_end l hl k (by omega) x4 x5 x6 (h7.1 rfl) hs1 hs2
    | false =>
      simp only [Bool.false_eq_true, if_false]
      exact bad_end l hl k (by omega) (fun h => by simpa using h7.2 h)
  | succ d ih =>
    intro i k x4 x5 x6 x7 hd hi hk h7 hs
    obtain ⟨k, rfl⟩ : ∃ m, k = m + 1 := ⟨k - 1, by omega⟩
    have hi' : i < l.length := by omega
    have ew : wrap64 ((i : Int) + 1) = ((i + 1 : Nat) : Int) := by unfold wrap64; omega
    rw [pledgelaw17_NeedSays.l0, if_pos (by omega), if_pos (by omega), rdT_nat l i hi', valid_eq]
    simp only [Option.bind_some]
    have et : l.take (i + 1) = l.take i ++ [l[i]] := List.take_succ_eq_append_getElem hi'
    have ed : l.drop i = l[i] :: l.drop (i + 1) := List.drop_eq_getElem_cons hi'
    generalize l[i] = x at et ed ⊢
    have hx : decide (Am x.f0 ∧ Am x.f1) = decide (vS x) := rfl
    rw [hx]
    have hgo : ∀ b : Bool, (b = true ↔ x7 = true ∧ vS x) → pledgelaw17_NeedSays.j2 k l x4 x5 x6 b (i : Int) (decide (vS x)) x.f0 x.f1 = some true := by
      intro b hb
      obtain ⟨k, rfl⟩ : ∃ m, k = m + 1 := ⟨k - 1, by omega⟩
      rw [pledgelaw17_NeedSays.j2, Valid_eq]
      simp only [Option.bind_some]
      by_cases hvx : vS x
      · have hvx' : Am x.f0 ∧ Am x.f1 := hvx
        rw [if_pos hvx', decide_eq_true hvx]
        simp only [Option.isNone_none, if_true, bne_self_eq_false, Bool.false_eq_true, if_false]
        obtain ⟨k, rfl⟩ : ∃ m, k = m + 1 := ⟨k - 1, by omega⟩
        rw [pledgelaw17_NeedSays.j3]
        simp only [Bool.false_eq_true, if_false, if_true]
        rw [ref_short _ _ hvx'.1 hvx'.2, short_S, if_pos hvx]
        simp only [Option.bind_some]
        rw [if_pos (show sv x = ab x.f0 x.f1 from rfl), Bound_eq, if_pos hvx']
        simp only [Option.bind_some, bne_self_eq_false, Bool.false_eq_true, if_false]
        rw [spare_eq, if_pos ⟨hvx'.2, hvx'.1⟩, mx_spare _ _ hvx'.1 hvx'.2]
        simp only [Option.bind_some, bne_self_eq_false]
        obtain ⟨k, rfl⟩ : ∃ m, k = m + 1 := ⟨k - 1, by omega⟩
        rw [pledgelaw17_NeedSays.j4]
        simp only [Bool.false_eq_true, if_false]
        rw [ew]
        have hbd := sv_bd x hvx
        have hb7 : b = true → x7 = true := fun h => (hb.1 h).1
        have h7' : b = true ↔ ∀ y ∈ l.take (i + 1), vS y := by
          rw [hb, h7, et]
          constructor
          · rintro ⟨h1, _⟩ y hy
            rcases List.mem_append.1 hy with h2 | h2
            · exact h1 y h2
            · rw [List.mem_singleton.1 h2]; exact hvx
          · intro h1
            exact ⟨fun y hy => h1 y (List.mem_append_left _ hy), hvx⟩
        have hs' : b = true → wrap64 (x6 + ab x.f0 x.f1) = ((l.take (i + 1)).map sv).sum := fun h => by
          obtain ⟨_, h2⟩ := hs (hb7 h)
          have hbd2 := sum_bd (l.take i) (h7.1 (hb7 h))
          have hlen : (l.take i).length = i := by rw [List.length_take]; omega
          rw [hlen] at hbd2
          have e3 : ab x.f0 x.f1 = sv x := rfl
          rw [et, List.map_append, List.sum_append, e3]
          simp only [List.map_cons, List.map_nil, List.sum_cons, List.sum_nil]
          rw [w64 _ (by omega) (by omega), h2]; omega
        have hw : b = true → wfold (x :: l.drop (i + 1)) i x4 x5 = wfold l 0 (-1) 0 := fun h => by
          rw [← ed]; exact (hs (hb7 h)).1
        have ec : ((i : Int) + 1) = ((i + 1 : Nat) : Int) := by omega
        have e3 : sv x = ab x.f0 x.f1 := rfl
        by_cases hgt : ab x.f0 x.f1 > x5
        · rw [if_pos hgt]
          refine ih (i + 1) k _ _ _ b (by omega) (by omega) (by omega) h7' (fun h => ⟨?_, hs' h⟩)
          have := hw h
          simp only [wfold] at this
          rw [if_pos hvx, e3, if_pos hgt, ec] at this
          exact this
        · rw [if_neg hgt]
          refine ih (i + 1) k _ _ _ b (by omega) (by omega) (by omega) h7' (fun h => ⟨?_, hs' h⟩)
          have := hw h
          simp only [wfold] at this
          rw [if_pos hvx, e3, if_neg hgt, ec] at this
          exact this
      · have hvx' : ¬ (Am x.f0 ∧ Am x.f1) := hvx
        have hbf : b = false := by cases b with | false => rfl | true => exact absurd (hb.1 rfl).2 hvx
        subst hbf
        rw [if_neg hvx', decide_eq_false hvx]
        simp only [Option.isNone_some, Bool.false_eq_true, if_false, bne_self_eq_false]
        rw [Is_some 103 103 (by omega) (by omega)]
        simp only [Option.bind_some, decide_true, Bool.not_true]
        obtain ⟨k, rfl⟩ : ∃ m, k = m + 1 := ⟨k - 1, by omega⟩
        rw [pledgelaw17_NeedSays.j3]
        simp only [Bool.false_eq_true, if_false]
        rw [ew]
        refine ih (i + 1) k _ _ _ false (by omega) (by omega) (by omega) ⟨fun h => by simp at h, fun h => ?_⟩ (fun h => by simp at h)
        have hm : x ∈ l.take (i + 1) := by rw [et]; exact List.mem_append_right _ (List.mem_singleton.2 rfl)
        exact absurd (h x hm) hvx
    cases x7 with
    | true =>
      simp only [if_true]
      exact hgo _ (by simp)
    | false =>
      simp only [Bool.false_eq_true, if_false]
      exact hgo _ (by simp)
end Go.Proofs.YtnpkohpgknhihaaDoor.PrNeedSays
namespace Go.Proofs.YtnpkohpgknhihaaDoor.Pr
open Go.Proofs.YtnpkohpgknhihaaDoor.ENeedSays Go.Proofs.YtnpkohpgknhihaaDoor.PrNeedSays
theorem NeedSays : pledgelaw17_NeedSays.Pure := by
  intro l _ hl
  refine ⟨1000, ?_⟩
  unfold pledgelaw17_NeedSays.f
  rw [first_eq]
  simp only [Option.bind_some, if_true]
  by_cases h : (l.length : Int) > 40
  · rw [if_pos h, pledgelaw17_NeedSays.j0]; simp
  · rw [if_neg h, pledgelaw17_NeedSays.j0]
    simp only [Bool.not_true, Bool.false_eq_true, if_false]
    exact main_l0 l (by omega) l.length 0 999 (-1) 0 0 true (by omega) (by omega) (by omega) (by simp) (by simp)
end Go.Proofs.YtnpkohpgknhihaaDoor.Pr
