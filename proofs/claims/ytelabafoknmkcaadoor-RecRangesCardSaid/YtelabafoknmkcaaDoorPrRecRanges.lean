/- Just what is within its bounds has a key, of eleven bytes; one beyond has none; fewer bytes end too early, more are not as they have to be: the pure statement of RecRanges, for all numbers and bytes. Conditions: none beyond the statement's own. -/
import Derived.Test.YtelabafoknmkcaaDoorERecRangesx
import Derived.Test.YtelabafoknmkcaaDoorOpen
namespace Go.Proofs.YtelabafoknmkcaaDoor.PrRecRanges
open Go.RowKit Go.Proofs.YtelabafoknmkcaaDoor.ERecRanges Go.Proofs.YtelabafoknmkcaaDoorW.PrintWords Go.Proofs.YtelabafoknmkcaaDoorW.PrintLast Go.Proofs.YtelabafoknmkcaaDoorW.PrintMore Go.Proofs.YtelabafoknmkcaaDoorW.PrintOpen
set_option linter.unusedSimpArgs false
set_option linter.unusedVariables false
theorem w64 (x : Int) (h1 : -9223372036854775808 ≤ x) (h2 : x ≤ 9223372036854775807) : wrap64 x = x := by unfold wrap64; omega
theorem w64s (x : Int) (h1 : -1000000000 ≤ x) (h2 : x ≤ 1000000000) : wrap64 x = x := by unfold wrap64; omega
theorem wu64 (n : Int) : IntKind.u64.wrap n = n % 18446744073709551616 := by simp [IntKind.wrap, IntKind.bits, IntKind.signed]
theorem rd_nat (l : List Int) (i : Nat) : rd l (i : Int) = l.getD i 0 := by unfold rd; rw [Int.toNat_natCast]
theorem rd_mem (l : List Int) (i : Nat) (h : i < l.length) : rd l (i : Int) ∈ l := by
  rw [rd_nat, List.getD_eq_getElem?_getD, List.getElem?_eq_getElem h]; exact List.getElem_mem h
theorem take_snoc_sum (l : List Int) (i : Nat) (h : i < l.length) : (l.take (i + 1)).sum = (l.take i).sum + rd l (i : Int) := by
  rw [List.take_succ_eq_append_getElem h, List.sum_append, rd_nat, List.getD_eq_getElem?_getD, List.getElem?_eq_getElem h]; simp
/-- A number's five bytes, the highest first. -/
def dg (n : Int) : List Int := [n / 4294967296 % 256, n / 16777216 % 256, n / 65536 % 256, n / 256 % 256, n % 256]
def ok40 (n : Int) : Prop := 0 ≤ n ∧ n ≤ 1099511627775
instance (n : Int) : Decidable (ok40 n) := by unfold ok40; infer_instance
theorem shr_i (x : Int) (i : Nat) (hi : i < 64) : shr .i64 x (i : Int) = x / 2 ^ i := by
  unfold shr
  rw [Int.toNat_natCast, Nat.min_eq_left (show i ≤ IntKind.i64.bits by simp [IntKind.bits]; omega)]
theorem put_step (n : Int) (l : List Int) (hl : l.length < 1000000) (i : Nat) (hi : i < 5) (k : Nat) :
    rec_put.l0 (k + 1) l n (i : Int) = rec_put.l0 k (l ++ [n / 2 ^ (8 * i) % 256]) n ((i : Int) - 1) := by
  simp only [rec_put.l0]
  have e : wrap64 (8 * (i : Int)) = ((8 * i : Nat) : Int) := by rw [w64s _ (by omega) (by omega)]; omega
  rw [if_pos (by omega), e, if_pos (by omega), if_pos (by omega), shr_i n (8 * i) (by omega), w64s _ (by omega) (by omega)]
theorem put_eq (l : List Int) (n : Int) (hl : l.length < 900000) (k : Nat) (hk : 6 < k) : rec_put.f k l n = some (l ++ dg n) := by
  unfold rec_put.f
  obtain ⟨k, rfl⟩ : ∃ m, k = m + 1 := ⟨k - 1, by omega⟩
  have h4 := put_step n l (by omega) 4 (by omega) k
  rw [show ((4 : Nat) : Int) = 4 from rfl] at h4
  rw [h4]
  obtain ⟨k, rfl⟩ : ∃ m, k = m + 1 := ⟨k - 1, by omega⟩
  have h3 := put_step n (l ++ [n / 2 ^ (8 * 4) % 256]) (by simp; omega) 3 (by omega) k
  rw [show ((3 : Nat) : Int) = (4 : Int) - 1 from rfl] at h3
  rw [h3]
  obtain ⟨k, rfl⟩ : ∃ m, k = m + 1 := ⟨k - 1, by omega⟩
  have h2 := put_step n (l ++ [n / 2 ^ (8 * 4) % 256] ++ [n / 2 ^ (8 * 3) % 256]) (by simp; omega) 2 (by omega) k
  rw [show ((2 : Nat) : Int) = (4 : Int) - 1 - 1 from rfl] at h2
  rw [h2]
  obtain ⟨k, rfl⟩ : ∃ m, k = m + 1 := ⟨k - 1, by omega⟩
  have h1 := put_step n (l ++ [n / 2 ^ (8 * 4) % 256] ++ [n / 2 ^ (8 * 3) % 256] ++ [n / 2 ^ (8 * 2) % 256]) (by simp; omega) 1 (by omega) k
  rw [show ((1 : Nat) : Int) = (4 : Int) - 1 - 1 - 1 from rfl] at h1
  rw [h1]
  obtain ⟨k, rfl⟩ : ∃ m, k = m + 1 := ⟨k - 1, by omega⟩
  have h0 := put_step n (l ++ [n / 2 ^ (8 * 4) % 256] ++ [n / 2 ^ (8 * 3) % 256] ++ [n / 2 ^ (8 * 2) % 256] ++ [n / 2 ^ (8 * 1) % 256]) (by simp; omega) 0 (by omega) k
  rw [show ((0 : Nat) : Int) = (4 : Int) - 1 - 1 - 1 - 1 from rfl] at h0
  rw [h0]
  obtain ⟨k, rfl⟩ : ∃ m, k = m + 1 := ⟨k - 1, by omega⟩
  simp only [rec_put.l0]
  rw [if_neg (by omega)]
  simp [dg]
/-- A key's bytes. -/
def keyL (kd a b : Int) : List Int := kd :: (dg a ++ dg b)
def okK (kd a b : Int) : Prop := (0 ≤ kd ∧ kd ≤ 255) ∧ ok40 a ∧ ok40 b
instance (kd a b : Int) : Decidable (okK kd a b) := by unfold okK; infer_instance
theorem Key_eq (kd a b : Int) (k : Nat) (hk : 10 < k) : rec_Key.f k kd a b = some (if okK kd a b then (keyL kd a b, none) else ([], some 103)) := by
  unfold rec_Key.f
  obtain ⟨k', hk'⟩ : ∃ m, k = m + 1 := ⟨k - 1, by omega⟩
  have hj : ∀ x y z, rec_Key.j0 k true x y z = some ([], some 103) := by intro x y z; rw [hk']; simp [rec_Key.j0]
  by_cases h1 : kd < 0
  · rw [if_pos h1, hj, if_neg (by unfold okK ok40; omega)]
  rw [if_neg h1]
  by_cases h2 : kd > 255
  · rw [if_pos h2, hj, if_neg (by unfold okK ok40; omega)]
  rw [if_neg h2]
  by_cases h3 : a < 0
  · rw [if_pos h3, hj, if_neg (by unfold okK ok40; omega)]
  rw [if_neg h3]
  by_cases h4 : a > 1099511627775
  · rw [if_pos h4, hj, if_neg (by unfold okK ok40; omega)]
  rw [if_neg h4]
  by_cases h5 : b < 0
  · rw [if_pos h5, hj, if_neg (by unfold okK ok40; omega)]
  rw [if_neg h5]
  by_cases h6 : b > 1099511627775
  · rw [decide_eq_true h6, hj, if_neg (by unfold okK ok40; omega)]
  rw [decide_eq_false h6, if_pos (by unfold okK ok40; omega), hk']
  simp only [rec_Key.j0, Bool.false_eq_true, if_false]
  rw [put_eq _ _ (by simp) k' (by omega)]
  simp only [Option.bind_some]
  rw [put_eq _ _ (by simp [dg]) k' (by omega)]
  simp only [Option.bind_some, keyL]
  rw [show kd % 256 = kd by omega]
  rfl
theorem Same_l0 (xs ys : List Int) (h : xs.length = ys.length) (hl : xs.length < 1000000) : ∀ (d i k : Nat), xs.length - i = d → i ≤ xs.length → d < k →
    pledgeref_SameBytes.l0 k xs ys (i : Int) = some (decide (xs.drop i = ys.drop i)) := by
  intro d
  induction d with
  | zero =>
    intro i k hd hi hk
    obtain ⟨k, rfl⟩ : ∃ m, k = m + 1 := ⟨k - 1, by omega⟩
    simp only [pledgeref_SameBytes.l0]
    rw [if_neg (by omega), List.drop_eq_nil_of_le (by omega), List.drop_eq_nil_of_le (by omega)]
    simp
  | succ d ih =>
    intro i k hd hi hk
    obtain ⟨k, rfl⟩ : ∃ m, k = m + 1 := ⟨k - 1, by omega⟩
    simp only [pledgeref_SameBytes.l0]
    have n1 : i < xs.length := by omega
    have n2 : i < ys.length := by omega
    have := ih (i + 1) k (by omega) (by omega) (by omega)
    have e : wrap64 ((i : Int) + 1) = ((i + 1 : Nat) : Int) := by rw [w64s _ (by omega) (by omega)]; omega
    rw [if_pos (by omega), if_pos (by omega), if_pos (by omega), e, this]
    have ex : rd xs (i : Int) = xs[i] := by rw [rd_nat, List.getD_eq_getElem?_getD, List.getElem?_eq_getElem n1]; rfl
    have ey : rd ys (i : Int) = ys[i] := by rw [rd_nat, List.getD_eq_getElem?_getD, List.getElem?_eq_getElem n2]; rfl
    rw [List.drop_eq_getElem_cons n1, List.drop_eq_getElem_cons n2, ex, ey]
    by_cases hx : xs[i] = ys[i]
    · rw [if_pos hx]; exact congrArg some (decide_eq_decide.2 ⟨fun z => by rw [hx, z], fun z => (List.cons.inj z).2⟩)
    · rw [if_neg hx, decide_eq_false (fun z => hx (List.cons.inj z).1)]
theorem Same_eq (xs ys : List Int) (hl : xs.length < 1000000) (k : Nat) (hk : xs.length < k) : pledgeref_SameBytes.f k xs ys = some (decide (xs = ys)) := by
  unfold pledgeref_SameBytes.f
  by_cases h : xs.length = ys.length
  · rw [if_pos (by omega)]
    have := Same_l0 xs ys h hl xs.length 0 k (by omega) (by omega) hk
    simpa using this
  · rw [if_neg (by omega), decide_eq_false (fun e => h (by rw [e]))]
theorem first9_eq (k : Nat) (hk : 20 < k) : pledgelaw9_first.f k = some true := by
  unfold pledgelaw9_first.f
  rw [Key_eq 1 2 3 k (by omega), if_pos (by decide)]
  simp only [Option.bind_some, Option.isNone_none, if_true]
  rw [Same_eq _ _ (by simp [keyL, dg]) k (by simp [keyL, dg]; omega)]
  rfl
theorem or_byte (x d : Int) (h0 : 0 ≤ x) (h1 : x < 4294967296) (d0 : 0 ≤ d) (d1 : d < 256) : Go.bits .or .i64 (wrap64 (x * 256)) (wrap64 d) = x * 256 + d := by
  rw [w64 _ (by omega) (by omega), w64s _ (by omega) (by omega)]
  exact bits_join .i64 63 (by decide) (fun n h0 h1 => by rw [IntKind.wrap_i64]; omega) 8 (x * 256) d (by omega) (by omega) (by omega) d0 (by omega) (by omega)
theorem num_step (l : List Int) (n : Int) (hn : n = l.length) (hn2 : n ≤ 5) (x : Int) (h0 : 0 ≤ x) (h1 : x < 4294967296) (i : Nat) (hi : i < l.length) (d : Int) (hd : l.getD i 0 = d) (d0 : 0 ≤ d) (d1 : d < 256) (k : Nat) :
    rec_number.l0 (k + 1) x l n (i : Int) = rec_number.l0 k (x * 256 + d) l n ((i + 1 : Nat) : Int) := by
  simp only [rec_number.l0]
  have e : wrap64 ((i : Int) + 1) = ((i + 1 : Nat) : Int) := by rw [w64s _ (by omega) (by omega)]; omega
  rw [if_pos (by omega), if_pos (by omega), if_pos (by omega), e, rd_nat, hd, or_byte x d h0 h1 d0 d1]
def B (d : Int) : Prop := 0 ≤ d ∧ d < 256
theorem number5 (d0 d1 d2 d3 d4 : Int) (t : List Int) (h0 : B d0) (h1 : B d1) (h2 : B d2) (h3 : B d3) (h4 : B d4) (k : Nat) (hk : 6 < k) :
    rec_number.f k (d0 :: d1 :: d2 :: d3 :: d4 :: t) = some ((((d0 * 256 + d1) * 256 + d2) * 256 + d3) * 256 + d4) := by
  unfold rec_number.f
  unfold B at h0 h1 h2 h3 h4
  rw [if_pos (by simp; omega)]
  have hl : (d0 :: d1 :: d2 :: d3 :: d4 :: t).take 5 = [d0, d1, d2, d3, d4] := rfl
  rw [hl]
  have hn : (([d0, d1, d2, d3, d4] : List Int).length : Int) = 5 := rfl
  rw [hn]
  obtain ⟨k, rfl⟩ : ∃ m, k = m + 1 := ⟨k - 1, by omega⟩
  have s0 := num_step [d0, d1, d2, d3, d4] 5 rfl (by omega) 0 (by omega) (by omega) 0 (by simp) d0 rfl h0.1 h0.2 k
  rw [show ((0 : Nat) : Int) = 0 from rfl] at s0
  rw [s0]
  obtain ⟨k, rfl⟩ : ∃ m, k = m + 1 := ⟨k - 1, by omega⟩
  rw [num_step [d0, d1, d2, d3, d4] 5 rfl (by omega) (0 * 256 + d0) (by omega) (by omega) 1 (by simp) d1 rfl h1.1 h1.2 k]
  obtain ⟨k, rfl⟩ : ∃ m, k = m + 1 := ⟨k - 1, by omega⟩
  rw [num_step [d0, d1, d2, d3, d4] 5 rfl (by omega) _ (by omega) (by omega) 2 (by simp) d2 rfl h2.1 h2.2 k]
  obtain ⟨k, rfl⟩ : ∃ m, k = m + 1 := ⟨k - 1, by omega⟩
  rw [num_step [d0, d1, d2, d3, d4] 5 rfl (by omega) _ (by omega) (by omega) 3 (by simp) d3 rfl h3.1 h3.2 k]
  obtain ⟨k, rfl⟩ : ∃ m, k = m + 1 := ⟨k - 1, by omega⟩
  rw [num_step [d0, d1, d2, d3, d4] 5 rfl (by omega) _ (by omega) (by omega) 4 (by simp) d4 rfl h4.1 h4.2 k]
  obtain ⟨k, rfl⟩ : ∃ m, k = m + 1 := ⟨k - 1, by omega⟩
  simp only [rec_number.l0]
  rw [if_neg (by omega)]
  congr 1
  omega
theorem number_dg (n : Int) (h : ok40 n) (t : List Int) (k : Nat) (hk : 6 < k) : rec_number.f k (dg n ++ t) = some n := by
  unfold ok40 at h
  show rec_number.f k (n / 4294967296 % 256 :: n / 16777216 % 256 :: n / 65536 % 256 :: n / 256 % 256 :: n % 256 :: t) = some n
  rw [number5 _ _ _ _ _ t (by unfold B; omega) (by unfold B; omega) (by unfold B; omega) (by unfold B; omega) (by unfold B; omega) k hk]
  congr 1
  omega
theorem Read_key (kd a b : Int) (h : okK kd a b) (k : Nat) (hk : 10 < k) : rec_Read.f k (keyL kd a b) = some (kd, a, b, none) := by
  obtain ⟨h0, ha, hb⟩ := h
  unfold rec_Read.f
  have hl : ((keyL kd a b).length : Int) = 11 := rfl
  rw [hl, if_neg (by omega), if_neg (by omega), if_pos (by omega), if_pos (by omega)]
  have e1 : (keyL kd a b).drop 1 = dg a ++ dg b := rfl
  have e6 : (keyL kd a b).drop 6 = dg b ++ [] := rfl
  have e0 : rd (keyL kd a b) 0 = kd := rfl
  rw [e1, e6, e0, number_dg a ha _ k (by omega)]
  simp only [Option.bind_some]
  rw [if_pos (by omega), number_dg b hb _ k (by omega), w64s kd (by omega) (by omega)]
  rfl
theorem Read_short (l : List Int) (h : l.length < 11) (k : Nat) : rec_Read.f k l = some (0, 0, 0, some 101) := by
  unfold rec_Read.f
  rw [if_pos (by omega)]
theorem Read_long (l : List Int) (h : 11 < l.length) (k : Nat) : rec_Read.f k l = some (0, 0, 0, some 102) := by
  unfold rec_Read.f
  rw [if_neg (by omega), if_pos (by omega)]
theorem Is_none (code : Int) : pledgesee_Is.f none code = some (decide (0 = code)) := by
  unfold pledgesee_Is.f pledgeref_Bare.f pledgesee_Same.f pledgesee_Fault.f pledgeref_None.f pledgeref_SameFault.f
  by_cases h : 0 = code <;> simp [h]
theorem Is_some (c code : Int) (h1 : 101 ≤ c) (h2 : c ≤ 121) : pledgesee_Is.f (some c) code = some (decide (c = code)) := by
  unfold pledgesee_Is.f pledgeref_Bare.f pledgesee_Same.f pledgesee_Fault.f pledgesee_sentinel.f pledgeref_Bare.f pledgeref_SameFault.f
  by_cases h : c = code <;> simp [h, h1, h2] <;> simp [← h, h1, h2]
theorem Bytes_l0 (xs : List Int) (hl : xs.length < 1000000) : ∀ (d i k : Nat), xs.length - i = d → i ≤ xs.length → d < k → pledgeref_Bytes.l0 k xs (xs.take i) (i : Int) = some xs := by
  intro d
  induction d with
  | zero =>
    intro i k hd hi hk
    obtain ⟨k, rfl⟩ : ∃ m, k = m + 1 := ⟨k - 1, by omega⟩
    simp only [pledgeref_Bytes.l0]
    rw [if_neg (by omega), List.take_of_length_le (by omega)]
  | succ d ih =>
    intro i k hd hi hk
    obtain ⟨k, rfl⟩ : ∃ m, k = m + 1 := ⟨k - 1, by omega⟩
    simp only [pledgeref_Bytes.l0]
    have n1 : i < xs.length := by omega
    have e : wrap64 ((i : Int) + 1) = ((i + 1 : Nat) : Int) := by rw [w64s _ (by omega) (by omega)]; omega
    have e3 : xs.take i ++ [rd xs (i : Int)] = xs.take (i + 1) := by
      rw [List.take_succ_eq_append_getElem n1, rd_nat, List.getD_eq_getElem?_getD, List.getElem?_eq_getElem n1]; rfl
    rw [if_pos (by omega), if_pos (by omega), if_pos (by rw [List.length_take]; omega), e, e3]
    exact ih (i + 1) k (by omega) (by omega) (by omega)
theorem Bytes_eq (xs : List Int) (hl : xs.length < 1000000) (k : Nat) (hk : xs.length < k) : pledgeref_Bytes.f k xs = some xs := by
  unfold pledgeref_Bytes.f
  rw [if_pos (by omega), if_pos (by omega)]
  have := Bytes_l0 xs hl xs.length 0 k (by omega) (by omega) hk
  simpa using this
theorem and255 (x : Int) (h0 : 0 ≤ x) (h1 : x < 1099511627776) : Go.bits .and .i64 x 255 = x % 256 :=
  bits_mask .i64 63 (by decide) (fun n h0 h1 => by rw [IntKind.wrap_i64]; omega) 8 (by decide) x h0 (by omega)
theorem j2_eq (k : Nat) (hk : 60 < k) (m : List Int) (hm : m.length ≤ 20) (x y z : Int) (h : okK x y z) : pledgelaw9_RecRanges.j2 (k + 1) m (keyL x y z) false = some true := by
  simp only [pledgelaw9_RecRanges.j2, Bool.false_eq_true, if_false]
  have hl : (keyL x y z).length = 11 := rfl
  have hmod : 0 ≤ (m.length : Int) % 11 ∧ (m.length : Int) % 11 < 11 := by omega
  rw [if_pos hmod.1, hl, if_pos (by omega), Read_short _ (by rw [List.length_take]; omega) k, Bytes_eq _ (by omega) k (by omega)]
  simp only [Option.bind_some]
  rw [if_pos (by omega), Is_some 101 101 (by omega) (by omega)]
  by_cases h0 : m = []
  · subst h0
    rw [List.append_nil, Read_key x y z h k (by omega)]
    simp
  · have hp : 0 < m.length := List.length_pos_iff.2 h0
    rw [Read_long _ (by rw [List.length_append]; omega) k]
    simp only [Option.bind_some, decide_true, if_true]
    rw [if_neg (by omega), if_pos (by omega), Is_some 102 102 (by omega) (by omega)]
    rfl
end Go.Proofs.YtelabafoknmkcaaDoor.PrRecRanges
namespace Go.Proofs.YtelabafoknmkcaaDoor.Pr
open Go.RowKit Go.Proofs.YtelabafoknmkcaaDoor.ERecRanges Go.Proofs.YtelabafoknmkcaaDoor.PrRecRanges Go.Proofs.YtelabafoknmkcaaDoorW.PrintWords
theorem RecRanges : pledgelaw9_RecRanges.Pure := by
  intro x y z m _ _ _ _ _
  obtain ⟨k, hk⟩ : ∃ k : Nat, 90 < k := ⟨91, by omega⟩
  obtain ⟨k', hk'⟩ : ∃ q, k = q + 1 := ⟨k - 1, by omega⟩
  obtain ⟨k2, hk2⟩ : ∃ q, k' = q + 1 := ⟨k' - 1, by omega⟩
  obtain ⟨k3, hk3⟩ : ∃ q, k2 = q + 1 := ⟨k2 - 1, by omega⟩
  refine ⟨k, ?_⟩
  unfold pledgelaw9_RecRanges.f
  rw [first9_eq k (by omega)]
  simp only [Option.bind_some, if_true]
  by_cases hm : (m.length : Int) > 20
  · rw [if_pos hm, hk']; simp [pledgelaw9_RecRanges.j0]
  · rw [if_neg hm, hk']
    simp only [pledgelaw9_RecRanges.j0, Bool.not_true, Bool.false_eq_true, if_false]
    rw [Key_eq x y z k' (by omega)]
    simp only [Option.bind_some]
    by_cases h : okK x y z
    · have h2 := h
      obtain ⟨⟨x0, x1⟩, ⟨y0, y1⟩, ⟨z0, z1⟩⟩ := h2
      rw [if_pos h, if_pos (by omega), if_pos (by omega), if_pos (by omega), if_pos (by omega), if_pos (by omega), decide_eq_true (by omega), hk2]
      simp only [pledgelaw9_RecRanges.j1, if_true, Option.isNone_none]
      have hl : ((keyL x y z).length : Int) = 11 := rfl
      have r0 : rd (keyL x y z) 0 = x := rfl
      have r5 : rd (keyL x y z) 5 = y % 256 := rfl
      have r10 : rd (keyL x y z) 10 = z % 256 := rfl
      rw [hl, if_pos rfl, if_pos (by omega), r0, w64s x (by omega) (by omega), if_pos rfl, if_pos (by omega), r5, w64s (y % 256) (by omega) (by omega), and255 y y0 (by omega), if_pos rfl, if_pos (by omega), r10, w64s (z % 256) (by omega) (by omega), and255 z z0 (by omega), bne_self_eq_false, hk3]
      exact j2_eq k3 (by omega) m (by omega) x y z h
    · have hj : ∀ q, pledgelaw9_RecRanges.j1 k' x y z m q (some 103) false = if (q.length : Int) = 0 then some true else some false := by
        intro q
        rw [hk2]
        simp only [pledgelaw9_RecRanges.j1, Bool.false_eq_true, if_false]
        rw [Is_some 103 103 (by omega) (by omega)]
        rfl
      have hj0 := hj []
      rw [if_pos (by simp)] at hj0
      rw [if_neg h]
      simp only []
      by_cases a1 : x ≥ 0
      · rw [if_pos a1]
        by_cases a2 : x ≤ 255
        · rw [if_pos a2]
          by_cases a3 : y ≥ 0
          · rw [if_pos a3]
            by_cases a4 : y < 1099511627776
            · rw [if_pos a4]
              by_cases a5 : z ≥ 0
              · rw [if_pos a5, decide_eq_false (fun a6 => h ⟨⟨a1, a2⟩, ⟨a3, by omega⟩, ⟨a5, by omega⟩⟩)]; exact hj0
              · rw [if_neg a5]; exact hj0
            · rw [if_neg a4]; exact hj0
          · rw [if_neg a3]; exact hj0
        · rw [if_neg a2]; exact hj0
      · rw [if_neg a1]; exact hj0
end Go.Proofs.YtelabafoknmkcaaDoor.Pr
