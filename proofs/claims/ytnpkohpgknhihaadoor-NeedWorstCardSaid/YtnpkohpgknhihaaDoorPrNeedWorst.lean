/- Of numbers (at most 20): the worst of the states they make is as chapter 17 says: the pure statement of NeedWorst, for all lists of numbers. Conditions: none beyond the statement's own. -/
import Derived.Test.YtnpkohpgknhihaaDoorENeedWorstx
import Derived.Test.YtnpkohpgknhihaaDoorOpen
namespace Go.Proofs.YtnpkohpgknhihaaDoor.PrNeedWorst
open Go.RowKit Go.Proofs.YtnpkohpgknhihaaDoor.ENeedWorst Go.Proofs.YtnpkohpgknhihaaDoorW.PrintWords Go.Proofs.YtnpkohpgknhihaaDoorW.PrintLast Go.Proofs.YtnpkohpgknhihaaDoorW.PrintMore Go.Proofs.YtnpkohpgknhihaaDoorW.PrintOpen
set_option linter.unusedSimpArgs false
set_option linter.unusedVariables false
theorem w64 (x : Int) (h1 : -9223372036854775808 ≤ x) (h2 : x ≤ 9223372036854775807) : wrap64 x = x := by unfold wrap64; omega
theorem wu64 (n : Int) : IntKind.u64.wrap n = n % 18446744073709551616 := by simp [IntKind.wrap, IntKind.bits, IntKind.signed]
theorem rd_nat (l : List Int) (i : Nat) : rd l (i : Int) = l.getD i 0 := by unfold rd; rw [Int.toNat_natCast]
theorem rd_mem (l : List Int) (i : Nat) (h : i < l.length) : rd l (i : Int) ∈ l := by
  rw [rd_nat, List.getD_eq_getElem?_getD, List.getElem?_eq_getElem h]; exact List.getElem_mem h
theorem take_snoc_sum (l : List Int) (i : Nat) (h : i < l.length) : (l.take (i + 1)).sum = (l.take i).sum + rd l (i : Int) := by
  rw [List.take_succ_eq_append_getElem h, List.sum_append, rd_nat, List.getD_eq_getElem?_getD, List.getElem?_eq_getElem h]; simp
theorem plus_eq (hi lo n : Int) (h0 : 0 ≤ lo) (h1 : lo < 18446744073709551616) (g0 : -1000000000 ≤ hi) (g1 : hi ≤ 1000000000) (n0 : -9223372036854775808 ≤ n) (n1 : n ≤ 9223372036854775807) :
    ∃ hi' lo', fix_wide_plus.f hi lo n = some (hi', lo') ∧ hi' * 18446744073709551616 + lo' = hi * 18446744073709551616 + lo + n ∧ 0 ≤ lo' ∧ lo' < 18446744073709551616 ∧ hi - 1 ≤ hi' ∧ hi' ≤ hi + 1 := by
  unfold fix_wide_plus.f
  rw [wu64]
  rw [if_pos h0, if_pos (by omega)]
  have e1 : wrap64 (hi + n / 9223372036854775808) = hi + n / 9223372036854775808 := w64 _ (by omega) (by omega)
  have e2 : wrap64 ((lo + n % 18446744073709551616) / 18446744073709551616) = (lo + n % 18446744073709551616) / 18446744073709551616 := w64 _ (by omega) (by omega)
  have e3 : wrap64 (hi + n / 9223372036854775808 + (lo + n % 18446744073709551616) / 18446744073709551616) = hi + n / 9223372036854775808 + (lo + n % 18446744073709551616) / 18446744073709551616 := w64 _ (by omega) (by omega)
  rw [e1, e2, e3]
  exact ⟨_, _, rfl, by omega, by omega, by omega, by omega, by omega⟩
theorem sum_l0 (l : List Int) (hl : l.length ≤ 90000) (hr : ∀ x ∈ l, Rng .i64 x) : ∀ (d i k : Nat) (hi lo : Int), l.length - i = d → i ≤ l.length → d < k → 0 ≤ lo → lo < 18446744073709551616 → -(i : Int) ≤ hi → hi ≤ i →
    hi * 18446744073709551616 + lo = (l.take i).sum → fix_Sum.l0 k l (l.length : Int) (i : Int) hi lo = some (if -9223372036854775808 ≤ l.sum ∧ l.sum ≤ 9223372036854775807 then (l.sum, true) else (0, false)) := by
  intro d
  induction d with
  | zero =>
    intro i k hi lo hd hi0 hk l0 l1 g0 g1 hs
    obtain ⟨k, rfl⟩ : ∃ m, k = m + 1 := ⟨k - 1, by omega⟩
    simp only [fix_Sum.l0]
    rw [if_neg (by omega)]
    have e : (l.take i).sum = l.sum := by rw [List.take_of_length_le (by omega)]
    rw [e] at hs
    by_cases hc : -9223372036854775808 ≤ l.sum ∧ l.sum ≤ 9223372036854775807
    · rw [if_pos hc]
      have e1 : wrap64 lo = l.sum := by unfold wrap64; omega
      rw [e1, if_pos (by omega)]
    · rw [if_neg hc, if_neg (by unfold wrap64; omega)]
  | succ d ih =>
    intro i k hi lo hd hi0 hk l0 l1 g0 g1 hs
    obtain ⟨k, rfl⟩ : ∃ m, k = m + 1 := ⟨k - 1, by omega⟩
    have a0 : i < l.length := by omega
    have a1 : l.length - (i + 1) = d := by omega
    have a3 : d < k := by omega
    have ew : wrap64 ((i : Int) + 1) = ((i + 1 : Nat) : Int) := by unfold wrap64; omega
    clear hd hi0 hk
    simp only [fix_Sum.l0]
    rw [if_pos (by omega), if_pos (by omega), if_pos (by omega)]
    obtain ⟨n0, n1⟩ : -9223372036854775808 ≤ rd l (i : Int) ∧ rd l (i : Int) ≤ 9223372036854775807 := hr _ (rd_mem l i a0)
    obtain ⟨hi', lo', e, e2, q0, q1, q2, q3⟩ := plus_eq hi lo (rd l (i : Int)) l0 l1 (by omega) (by omega) n0 n1
    rw [e]
    simp only [Option.bind_some]
    rw [ew]
    have hs' : hi' * 18446744073709551616 + lo' = (l.take (i + 1)).sum := by rw [take_snoc_sum l i a0, e2, hs]
    clear e2 hs n0 n1 e ew
    exact ih (i + 1) k hi' lo' a1 a0 a3 q0 q1 (by omega) (by omega) hs'
theorem fix_Sum_eq (l : List Int) (hl : l.length ≤ 90000) (hr : ∀ x ∈ l, Rng .i64 x) (k : Nat) (hk : l.length < k) :
    fix_Sum.f k l = some (if -9223372036854775808 ≤ l.sum ∧ l.sum ≤ 9223372036854775807 then (l.sum, true) else (0, false)) := by
  unfold fix_Sum.f
  exact sum_l0 l hl hr l.length 0 k 0 0 (by omega) (by omega) hk (by omega) (by omega) (by omega) (by omega) (by simp)
/-- An amount. -/
def Am (a : Int) : Prop := 0 ≤ a ∧ a ≤ 1000000000000000
instance (a : Int) : Decidable (Am a) := by unfold Am; infer_instance
/-- What one amount has above another one. -/
def ab (a b : Int) : Int := if b < a then a - b else 0
theorem amount_eq (a : Int) : need_amount.f a = some (decide (Am a)) := by
  unfold need_amount.f
  by_cases h : a ≥ 0
  · rw [if_pos h]; exact congrArg some (decide_eq_decide.2 (by unfold Am; omega))
  · rw [if_neg h, decide_eq_false (by unfold Am; omega)]
theorem above_eq (a b : Int) : need_above.f a b = some (if Am a ∧ Am b then ab a b else 0) := by
  unfold need_above.f
  simp only [amount_eq, Option.bind_some, decide_eq_true_eq]
  by_cases h1 : Am a
  · by_cases h2 : Am b
    · rw [if_pos h1, if_pos h2, if_pos ⟨h1, h2⟩]
      congr 1
      unfold Am at h1 h2
      unfold mx wrap64 ab
      split <;> split <;> omega
    · rw [if_pos h1, if_neg h2, if_neg (fun h => h2 h.2)]
  · rw [if_neg h1, if_neg (fun h => h1 h.1)]
theorem short_eq (n h : Int) : need_Short.f n h = some (if Am n ∧ Am h then ab n h else 0) := by
  unfold need_Short.f; rw [above_eq]; rfl
theorem first_eq : pledgelaw17_first.f = some true := by
  unfold pledgelaw17_first.f; rw [short_eq]; rfl
/-- A state that may be; what it lacks. -/
def vS (x : S23) : Prop := Am x.f0 ∧ Am x.f1
instance (x : S23) : Decidable (vS x) := by unfold vS; infer_instance
def sv (x : S23) : Int := ab x.f0 x.f1
theorem sv_bd (x : S23) (h : vS x) : 0 ≤ sv x ∧ sv x ≤ 1000000000000000 := by
  obtain ⟨h1, h2⟩ := h; unfold Am at h1 h2; unfold sv ab; split <;> omega
theorem sum_bd : ∀ (l : List S23), (∀ x ∈ l, vS x) → 0 ≤ (l.map sv).sum ∧ (l.map sv).sum ≤ l.length * 1000000000000000
  | [], _ => by simp
  | x :: r, h => by
    have h1 := sv_bd x (h x (by simp))
    have h2 := sum_bd r (fun y hy => h y (by simp [hy]))
    simp only [List.map_cons, List.sum_cons, List.length_cons]
    omega
theorem short_S (x : S23) : need_Short.f x.f0 x.f1 = some (if vS x then sv x else 0) := short_eq _ _
theorem Valid_eq (n h : Int) : need_Valid.f n h = some (if Am n ∧ Am h then none else some 103) := by
  unfold need_Valid.f
  simp only [amount_eq, Option.bind_some, decide_eq_true_eq]
  by_cases h1 : Am n <;> by_cases h2 : Am h <;> simp [h1, h2]
theorem rdT_nat (l : List S23) (i : Nat) (h : i < l.length) : rd_T23 l (i : Int) = l[i] := by
  unfold rd_T23; rw [Int.toNat_natCast, List.getD_eq_getElem?_getD, List.getElem?_eq_getElem h]; rfl
/-- The worst, from a place on. -/
def wfold : List S23 → Int → Int → Int → Int × Int
  | [], _, b, m => (b, m)
  | x :: r, i, b, m => if (if vS x then sv x else 0) > m then wfold r (i + 1) i (if vS x then sv x else 0) else wfold r (i + 1) b m
theorem worst_l0 (l : List S23) (hl : l.length ≤ 90000) : ∀ (d i k : Nat) (b m : Int), l.length - i = d → i ≤ l.length → d < k →
    need_Worst.l0 k b m l (l.length : Int) (i : Int) = some ((wfold (l.drop i) i b m).1, decide ((wfold (l.drop i) i b m).2 > 0)) := by
  intro d
  induction d with
  | zero =>
    intro i k b m hd hi hk
    obtain ⟨k, rfl⟩ : ∃ m, k = m + 1 := ⟨k - 1, by omega⟩
    simp only [need_Worst.l0]
    rw [if_neg (by omega), List.drop_of_length_le (by omega)]
    rfl
  | succ d ih =>
    intro i k b m hd hi hk
    obtain ⟨k, rfl⟩ : ∃ m, k = m + 1 := ⟨k - 1, by omega⟩
    simp only [need_Worst.l0]
    rw [if_pos (by omega), if_pos (by omega), if_pos (by omega), rdT_nat l i (by omega), short_S]
    simp only [Option.bind_some]
    have ew : wrap64 ((i : Int) + 1) = ((i + 1 : Nat) : Int) := by unfold wrap64; omega
    have ew2 : wfold (l.drop i) i b m = if (if vS l[i] then sv l[i] else 0) > m then wfold (l.drop (i + 1)) ((i + 1 : Nat) : Int) i (if vS l[i] then sv l[i] else 0) else wfold (l.drop (i + 1)) ((i + 1 : Nat) : Int) b m := by
      rw [List.drop_eq_getElem_cons (by omega)]; rfl
    rw [ew, ew2]
    by_cases h : (if vS l[i] then sv l[i] else 0) > m
    · rw [if_pos h, if_pos h]; exact ih (i + 1) k _ _ (by omega) (by omega) (by omega)
    · rw [if_neg h, if_neg h]; exact ih (i + 1) k _ _ (by omega) (by omega) (by omega)
theorem Worst_eq (l : List S23) (hl : l.length ≤ 90000) (k : Nat) (hk : l.length < k) : need_Worst.f k l = some ((wfold l 0 0 0).1, decide ((wfold l 0 0 0).2 > 0)) := by
  unfold need_Worst.f
  have := worst_l0 l hl l.length 0 k 0 0 (by omega) (by omega) hk
  simpa using this
theorem all_take (l : List S23) (i : Nat) (h : i < l.length) (hv : ∀ x ∈ l.take i, vS x) (hx : vS l[i]) : ∀ x ∈ l.take (i + 1), vS x := by
  intro x hm
  rw [List.take_succ_eq_append_getElem h] at hm
  rcases List.mem_append.1 hm with h1 | h1
  · exact hv x h1
  · rw [List.mem_singleton.1 h1]; exact hx
theorem total_l0 (l : List S23) (hl : l.length ≤ 900) : ∀ (d i k : Nat), l.length - i = d → i ≤ l.length → d + l.length + 1 < k → (∀ x ∈ l.take i, vS x) →
    need_Total.l0 k ((l.take i).map sv) l (l.length : Int) (i : Int) = some (if (∀ x ∈ l, vS x) then (if (l.map sv).sum ≤ 1000000000000000 then ((l.map sv).sum, none) else (0, some 104)) else (0, some 103)) := by
  intro d
  induction d with
  | zero =>
    intro i k hd hi hk hv
    obtain ⟨k, rfl⟩ : ∃ m, k = m + 1 := ⟨k - 1, by omega⟩
    simp only [need_Total.l0]
    have et : l.take i = l := List.take_of_length_le (by omega)
    rw [et] at hv ⊢
    rw [if_neg (by omega), if_pos hv, fix_Sum_eq (l.map sv) (by simp; omega) (fun x hx => by
      obtain ⟨y, hy, rfl⟩ := List.mem_map.1 hx
      have := sv_bd y (hv y hy)
      exact ⟨by omega, by omega⟩) k (by simp; omega)]
    have hb : 0 ≤ (l.map sv).sum ∧ (l.map sv).sum ≤ l.length * 1000000000000000 := sum_bd l hv
    rw [if_pos (by constructor <;> omega)]
    simp only [Option.bind_some, if_true]
    by_cases h : (l.map sv).sum ≤ 1000000000000000
    · rw [if_neg (by omega), if_pos h]
    · rw [if_pos (by omega), if_neg h]
  | succ d ih =>
    intro i k hd hi hk hv
    obtain ⟨k, rfl⟩ : ∃ m, k = m + 1 := ⟨k - 1, by omega⟩
    simp only [need_Total.l0]
    rw [if_pos (by omega), if_pos (by omega), if_pos (by omega), rdT_nat l i (by omega), Valid_eq]
    simp only [Option.bind_some]
    by_cases hx : vS l[i]
    · have hx' : Am l[i].f0 ∧ Am l[i].f1 := hx
      rw [if_pos hx']
      simp only [Option.isNone_none, if_true]
      rw [short_S, if_pos hx]
      simp only [Option.bind_some]
      rw [if_pos (by simp; omega)]
      have ew : wrap64 ((i : Int) + 1) = ((i + 1 : Nat) : Int) := by unfold wrap64; omega
      have em : (l.take i).map sv ++ [sv l[i]] = (l.take (i + 1)).map sv := by rw [List.take_succ_eq_append_getElem (by omega), List.map_append]; rfl
      rw [ew, em]
      exact ih (i + 1) k (by omega) (by omega) (by omega) (all_take l i (by omega) hv hx)
    · have hx' : ¬ (Am l[i].f0 ∧ Am l[i].f1) := hx
      rw [if_neg hx']
      have hn : ¬ ∀ x ∈ l, vS x := fun h => hx (h _ (List.getElem_mem _))
      simp only [if_neg hn, Option.isNone_some, Bool.false_eq_true, if_false, Option.getD_some]
theorem Total_eq (l : List S23) (hl : l.length ≤ 900) (k : Nat) (hk : 2 * l.length + 1 < k) :
    need_Total.f k l = some (if (∀ x ∈ l, vS x) then (if (l.map sv).sum ≤ 1000000000000000 then ((l.map sv).sum, none) else (0, some 104)) else (0, some 103)) := by
  unfold need_Total.f
  have := total_l0 l hl l.length 0 k (by omega) (by omega) (by omega) (by simp)
  simpa using this
theorem number_ex (v : Int) : ∃ r, pledgeworld_Number.f v 50 = some r ∧ 0 ≤ r ∧ r < 50 := by
  unfold pledgeworld_Number.f
  rw [if_neg (by omega)]
  have h1 := Int.tmod_lt_of_pos v (b := 50) (by omega)
  have h2 := Int.lt_tmod_of_pos v (b := 50) (by omega)
  by_cases h : Int.tmod v 50 < 0
  · rw [if_pos h]
    exact ⟨_, rfl, by rw [w64 _ (by omega) (by omega)]; omega, by rw [w64 _ (by omega) (by omega)]; omega⟩
  · rw [if_neg h]; exact ⟨_, rfl, by omega, by omega⟩
/-- What is light: a state of small numbers. -/
def Li (x : S23) : Prop := 0 ≤ x.f0 ∧ x.f0 < 50 ∧ 0 ≤ x.f1 ∧ x.f1 < 50
theorem Li.v {x : S23} (h : Li x) : vS x := by unfold Li at h; exact ⟨⟨by omega, by omega⟩, by omega, by omega⟩
theorem Li.sv {x : S23} (h : Li x) : 0 ≤ sv x ∧ sv x ≤ 50 := by unfold Li at h; unfold PrNeedWorst.sv ab; split <;> omega
theorem li_sum : ∀ (l : List S23), (∀ x ∈ l, Li x) → 0 ≤ (l.map sv).sum ∧ (l.map sv).sum ≤ l.length * 50
  | [], _ => by simp
  | x :: r, h => by
    have h1 := (h x (by simp)).sv
    have h2 := li_sum r (fun y hy => h y (by simp [hy]))
    simp only [List.map_cons, List.sum_cons, List.length_cons]
    omega
theorem sum_pos : ∀ (l : List S23), (∀ x ∈ l, Li x) → (0 < (l.map sv).sum ↔ ∃ x ∈ l, 0 < sv x)
  | [], _ => by simp
  | x :: r, h => by
    have h1 := (h x (by simp)).sv
    have h2 := sum_pos r (fun y hy => h y (by simp [hy]))
    have h3 := li_sum r (fun y hy => h y (by simp [hy]))
    simp only [List.map_cons, List.sum_cons, List.mem_cons, exists_eq_or_imp]
    rw [← h2]
    omega
theorem wf_spec : ∀ (r : List S23), (∀ x ∈ r, Li x) → ∀ (i b m : Int),
    m ≤ (wfold r i b m).2 ∧ (∀ x ∈ r, sv x ≤ (wfold r i b m).2) ∧
    ((wfold r i b m = (b, m)) ∨ (m < (wfold r i b m).2 ∧ ∃ j : Nat, ∃ hj : j < r.length, (wfold r i b m).1 = i + j ∧ sv r[j] = (wfold r i b m).2 ∧ ∀ q : Nat, ∀ hq : q < j, sv (r[q]'(by omega)) < (wfold r i b m).2))
  | [], _, i, b, m => by simp [wfold]
  | x :: r, h, i, b, m => by
    have hv : vS x := (h x (by simp)).v
    simp only [wfold, if_pos hv]
    by_cases hs : sv x > m
    · simp only [if_pos hs]
      obtain ⟨h1, h2, h3⟩ := wf_spec r (fun y hy => h y (by simp [hy])) (i + 1) i (sv x)
      refine ⟨by omega, ?_, .inr ⟨by omega, ?_⟩⟩
      · intro y hy
        rcases List.mem_cons.1 hy with rfl | hy
        · exact h1
        · exact h2 y hy
      · rcases h3 with h3 | ⟨h3, j, hj, h4, h5, h6⟩
        · rw [h3]
          exact ⟨0, by simp, by simp, by simp, fun q hq => by omega⟩
        · refine ⟨j + 1, by simpa using hj, by rw [h4]; omega, by simpa using h5, ?_⟩
          intro q hq
          cases q with
          | zero => simpa using h3
          | succ q => simpa using h6 q (by omega)
    · simp only [if_neg hs]
      obtain ⟨h1, h2, h3⟩ := wf_spec r (fun y hy => h y (by simp [hy])) (i + 1) b m
      refine ⟨h1, ?_, ?_⟩
      · intro y hy
        rcases List.mem_cons.1 hy with rfl | hy
        · omega
        · exact h2 y hy
      · rcases h3 with h3 | ⟨h3, j, hj, h4, h5, h6⟩
        · exact .inl h3
        · refine .inr ⟨h3, j + 1, by simpa using hj, by rw [h4]; omega, by simpa using h5, ?_⟩
          intro q hq
          cases q with
          | zero => simp only [List.getElem_cons_zero]; omega
          | succ q => simpa using h6 q (by omega)
theorem short_L (x : S23) (h : Li x) : need_Short.f x.f0 x.f1 = some (sv x) := by rw [short_S, if_pos h.v]
theorem l1_all (l : List S23) (hl : l.length ≤ 20) (hv : ∀ x ∈ l, Li x) (t : Nat) (ht : t < l.length) (hm : ∀ x ∈ l, sv x ≤ sv l[t]) (hf : ∀ q : Nat, ∀ hq : q < t, sv (l[q]'(by omega)) < sv l[t]) :
    ∀ (d i k : Nat), l.length - i = d → i ≤ l.length → 2 * d + 2 < k → pledgelaw17_NeedWorst.l1 k l (t : Int) true (i : Int) = some true := by
  intro d
  induction d with
  | zero =>
    intro i k hd hi hk
    obtain ⟨k, rfl⟩ : ∃ m, k = m + 1 := ⟨k - 1, by omega⟩
    simp only [pledgelaw17_NeedWorst.l1]
    rw [if_neg (by omega)]
    obtain ⟨k, rfl⟩ : ∃ m, k = m + 1 := ⟨k - 1, by omega⟩
    simp [pledgelaw17_NeedWorst.j4]
  | succ d ih =>
    intro i k hd hi hk
    obtain ⟨k, rfl⟩ : ∃ m, k = m + 1 := ⟨k - 1, by omega⟩
    simp only [pledgelaw17_NeedWorst.l1]
    rw [if_pos (by omega)]
    obtain ⟨k, rfl⟩ : ∃ m, k = m + 1 := ⟨k - 1, by omega⟩
    simp only [pledgelaw17_NeedWorst.j4, if_true]
    have ew : wrap64 ((i : Int) + 1) = ((i + 1 : Nat) : Int) := by unfold wrap64; omega
    have hil : i < l.length := by omega
    have hrec := ih (i + 1) k (by omega) (by omega) (by omega)
    rw [if_pos (by omega), if_pos (by omega), rdT_nat l i hil, rdT_nat l t ht, short_L _ (hv _ (List.getElem_mem hil)), short_L _ (hv _ (List.getElem_mem ht))]
    simp only [Option.bind_some]
    have h1 := hm _ (List.getElem_mem hil)
    rw [if_pos (by omega), if_pos (by omega), if_neg (by omega), ew]
    by_cases hq : i < t
    · have h2 := hf i hq
      rw [if_pos (by omega), if_neg (by omega)]; exact hrec
    · rw [if_neg (by omega)]; exact hrec
theorem tail_ok (s : List S23) (hl : s.length ≤ 20) (hv : ∀ x ∈ s, Li x) (k : Nat) (hk : 100 < k) :
    ((need_Worst.f k s).bind fun bt138 => ((need_Total.f k s).bind fun bt140 => (if bt140.2.isNone = true then (if bt140.1 = (s.map sv).sum then (pledgelaw17_NeedWorst.j2 k s bt138.1 bt138.2 (bt138.2 != (decide ((s.map sv).sum > 0)))) else (pledgelaw17_NeedWorst.j2 k s bt138.1 bt138.2 true)) else (pledgelaw17_NeedWorst.j2 k s bt138.1 bt138.2 true)))) = some true := by
  have hb := li_sum s hv
  have hp := sum_pos s hv
  obtain ⟨h1, h2, h3⟩ := wf_spec s hv 0 0 0
  rw [Worst_eq s (by omega) k (by omega), Total_eq s (by omega) k (by omega), if_pos (fun x hx => (hv x hx).v), if_pos (by omega)]
  simp only [Option.bind_some, Option.isNone_none, if_true]
  obtain ⟨k, rfl⟩ : ∃ m, k = m + 1 := ⟨k - 1, by omega⟩
  have e : (decide ((wfold s 0 0 0).2 > 0)) = decide ((s.map sv).sum > 0) := by
    apply decide_eq_decide.2
    constructor
    · intro h
      rcases h3 with h3 | ⟨_, j, hj, h4, h5, h6⟩
      · rw [h3] at h; simp at h
      · exact hp.2 ⟨s[j], List.getElem_mem hj, by omega⟩
    · intro h
      obtain ⟨x, hx, hx2⟩ := hp.1 h
      have := h2 x hx
      omega
  rw [e]
  simp only [pledgelaw17_NeedWorst.j2, bne_self_eq_false, Bool.false_eq_true, if_false]
  rcases h3 with h3 | ⟨hpos, j, hj, h4, h5, h6⟩
  · have e2 : decide ((s.map sv).sum > 0) = false := by rw [← e, h3]; simp
    rw [e2, h3]
    obtain ⟨k, rfl⟩ : ∃ m, k = m + 1 := ⟨k - 1, by omega⟩
    simp only [pledgelaw17_NeedWorst.l1]
    obtain ⟨k, rfl⟩ : ∃ m, k = m + 1 := ⟨k - 1, by omega⟩
    split <;> simp [pledgelaw17_NeedWorst.j4]
  · have e2 : decide ((s.map sv).sum > 0) = true := by rw [← e]; simpa using hpos
    rw [e2, h4, Int.zero_add]
    refine l1_all s hl hv j hj (fun x hx => by rw [h5]; exact h2 x hx) (fun q hq => by rw [h5]; exact h6 q hq) s.length 0 k (by omega) (by omega) (by omega)
theorem li_snoc (s : List S23) (x : S23) (hv : ∀ y ∈ s, Li y) (hx : Li x) : ∀ y ∈ s ++ [x], Li y := by
  intro y hy
  rcases List.mem_append.1 hy with h | h
  · exact hv y h
  · rw [List.mem_singleton.1 h]; exact hx
theorem main_l0 (l : List Int) (hl : l.length ≤ 20) : ∀ (d i k : Nat) (s : List S23), l.length - i = d → i ≤ l.length → d + 200 < k → s.length = i → (∀ x ∈ s, Li x) →
    pledgelaw17_NeedWorst.l0 k l s (s.map sv).sum (i : Int) = some true := by
  intro d
  induction d with
  | zero =>
    intro i k s hd hi hk hs hv
    obtain ⟨k, rfl⟩ : ∃ m, k = m + 1 := ⟨k - 1, by omega⟩
    simp only [pledgelaw17_NeedWorst.l0]
    rw [if_neg (by omega)]
    exact tail_ok s (by omega) hv k (by omega)
  | succ d ih =>
    intro i k s hd hi hk hs hv
    obtain ⟨k, rfl⟩ : ∃ m, k = m + 1 := ⟨k - 1, by omega⟩
    simp only [pledgelaw17_NeedWorst.l0]
    have ew : wrap64 ((i : Int) + 1) = ((i + 1 : Nat) : Int) := by unfold wrap64; omega
    obtain ⟨a, ha, ha1, ha2⟩ := number_ex (rd l (i : Int))
    obtain ⟨b, hb, hb1, hb2⟩ := number_ex (wrap64 (Int.tdiv (rd l (i : Int)) 50))
    have hx : Li ⟨a, b⟩ := ⟨ha1, ha2, hb1, hb2⟩
    have hsum := li_sum s hv
    have hsv := hx.sv
    rw [if_pos (by omega), if_pos (by omega), ha, hb]
    simp only [Option.bind_some]
    rw [if_pos (by omega), short_L ⟨a, b⟩ hx]
    simp only [Option.bind_some]
    have es : wrap64 ((s.map sv).sum + sv ⟨a, b⟩) = ((s ++ [(⟨a, b⟩ : S23)]).map sv).sum := by
      rw [w64 _ (by omega) (by omega), List.map_append, List.sum_append]; simp
    rw [ew, es]
    exact ih (i + 1) k _ (by omega) (by omega) (by omega) (by simp; omega) (li_snoc s _ hv hx)
end Go.Proofs.YtnpkohpgknhihaaDoor.PrNeedWorst
namespace Go.Proofs.YtnpkohpgknhihaaDoor.Pr
open Go.Proofs.YtnpkohpgknhihaaDoor.ENeedWorst Go.Proofs.YtnpkohpgknhihaaDoor.PrNeedWorst
theorem NeedWorst : pledgelaw17_NeedWorst.Pure := by
  intro l _ hl
  refine ⟨1000, ?_⟩
  unfold pledgelaw17_NeedWorst.f
  rw [first_eq]
  simp only [Option.bind_some, if_true]
  by_cases h : (l.length : Int) > 20
  · rw [if_pos h, pledgelaw17_NeedWorst.j0]; simp
  · rw [if_neg h, pledgelaw17_NeedWorst.j0]
    simp only [Bool.not_true, Bool.false_eq_true, if_false]
    exact main_l0 l (by omega) l.length 0 999 [] (by omega) (by omega) (by omega) (by simp) (by simp)
end Go.Proofs.YtnpkohpgknhihaaDoor.Pr
