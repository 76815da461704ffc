/- Any place's key, any bytes as a place, any numbers packed, any bytes unpacked, or why not, are what the chapter says: what the walk leaves of RecSays, for all numbers and bytes. Conditions: none beyond the statement's own. -/
import Derived.Test.YtelabafoknmkcaaDoorERecSaysx
import Derived.Test.YtelabafoknmkcaaDoorOpen
namespace Go.Proofs.YtelabafoknmkcaaDoor.PrRecSaysR
open Go.RowKit Go.Proofs.YtelabafoknmkcaaDoor.ERecSays Go.Proofs.YtelabafoknmkcaaDoorW.PrintWords Go.Proofs.YtelabafoknmkcaaDoorW.PrintLast Go.Proofs.YtelabafoknmkcaaDoorW.PrintMore Go.Proofs.YtelabafoknmkcaaDoorW.PrintOpen
set_option linter.unusedSimpArgs false
set_option linter.unusedVariables false
theorem w64 (x : Int) (h1 : -9223372036854775808 ≤ x) (h2 : x ≤ 9223372036854775807) : wrap64 x = x := by unfold wrap64; omega
theorem w64s (x : Int) (h1 : -1000000000 ≤ x) (h2 : x ≤ 1000000000) : wrap64 x = x := by unfold wrap64; omega
theorem wu64 (n : Int) : IntKind.u64.wrap n = n % 18446744073709551616 := by simp [IntKind.wrap, IntKind.bits, IntKind.signed]
theorem rd_nat (l : List Int) (i : Nat) : rd l (i : Int) = l.getD i 0 := by unfold rd; rw [Int.toNat_natCast]
theorem rd_mem (l : List Int) (i : Nat) (h : i < l.length) : rd l (i : Int) ∈ l := by
  rw [rd_nat, List.getD_eq_getElem?_getD, List.getElem?_eq_getElem h]; exact List.getElem_mem h
theorem take_snoc_sum (l : List Int) (i : Nat) (h : i < l.length) : (l.take (i + 1)).sum = (l.take i).sum + rd l (i : Int) := by
  rw [List.take_succ_eq_append_getElem h, List.sum_append, rd_nat, List.getD_eq_getElem?_getD, List.getElem?_eq_getElem h]; simp
/-- A number's five bytes, the highest first. -/
def dg (n : Int) : List Int := [n / 4294967296 % 256, n / 16777216 % 256, n / 65536 % 256, n / 256 % 256, n % 256]
def ok40 (n : Int) : Prop := 0 ≤ n ∧ n ≤ 1099511627775
instance (n : Int) : Decidable (ok40 n) := by unfold ok40; infer_instance
theorem shr_i (x : Int) (i : Nat) (hi : i < 64) : shr .i64 x (i : Int) = x / 2 ^ i := by
  unfold shr
  rw [Int.toNat_natCast, Nat.min_eq_left (show i ≤ IntKind.i64.bits by simp [IntKind.bits]; omega)]
theorem put_step (n : Int) (l : List Int) (hl : l.length < 1000000) (i : Nat) (hi : i < 5) (k : Nat) :
    rec_put.l0 (k + 1) l n (i : Int) = rec_put.l0 k (l ++ [n / 2 ^ (8 * i) % 256]) n ((i : Int) - 1) := by
  simp only [rec_put.l0]
  have e : wrap64 (8 * (i : Int)) = ((8 * i : Nat) : Int) := by rw [w64s _ (by omega) (by omega)]; omega
  rw [if_pos (by omega), e, if_pos (by omega), if_pos (by omega), shr_i n (8 * i) (by omega), w64s _ (by omega) (by omega)]
theorem put_eq (l : List Int) (n : Int) (hl : l.length < 900000) (k : Nat) (hk : 6 < k) : rec_put.f k l n = some (l ++ dg n) := by
  unfold rec_put.f
  obtain ⟨k, rfl⟩ : ∃ m, k = m + 1 := ⟨k - 1, by omega⟩
  have h4 := put_step n l (by omega) 4 (by omega) k
  rw [show ((4 : Nat) : Int) = 4 from rfl] at h4
  rw [h4]
  obtain ⟨k, rfl⟩ : ∃ m, k = m + 1 := ⟨k - 1, by omega⟩
  have h3 := put_step n (l ++ [n / 2 ^ (8 * 4) % 256]) (by simp; omega) 3 (by omega) k
  rw [show ((3 : Nat) : Int) = (4 : Int) - 1 from rfl] at h3
  rw [h3]
  obtain ⟨k, rfl⟩ : ∃ m, k = m + 1 := ⟨k - 1, by omega⟩
  have h2 := put_step n (l ++ [n / 2 ^ (8 * 4) % 256] ++ [n / 2 ^ (8 * 3) % 256]) (by simp; omega) 2 (by omega) k
  rw [show ((2 : Nat) : Int) = (4 : Int) - 1 - 1 from rfl] at h2
  rw [h2]
  obtain ⟨k, rfl⟩ : ∃ m, k = m + 1 := ⟨k - 1, by omega⟩
  have h1 := put_step n (l ++ [n / 2 ^ (8 * 4) % 256] ++ [n / 2 ^ (8 * 3) % 256] ++ [n / 2 ^ (8 * 2) % 256]) (by simp; omega) 1 (by omega) k
  rw [show ((1 : Nat) : Int) = (4 : Int) - 1 - 1 - 1 from rfl] at h1
  rw [h1]
  obtain ⟨k, rfl⟩ : ∃ m, k = m + 1 := ⟨k - 1, by omega⟩
  have h0 := put_step n (l ++ [n / 2 ^ (8 * 4) % 256] ++ [n / 2 ^ (8 * 3) % 256] ++ [n / 2 ^ (8 * 2) % 256] ++ [n / 2 ^ (8 * 1) % 256]) (by simp; omega) 0 (by omega) k
  rw [show ((0 : Nat) : Int) = (4 : Int) - 1 - 1 - 1 - 1 from rfl] at h0
  rw [h0]
  obtain ⟨k, rfl⟩ : ∃ m, k = m + 1 := ⟨k - 1, by omega⟩
  simp only [rec_put.l0]
  rw [if_neg (by omega)]
  simp [dg]
/-- A key's bytes. -/
def keyL (kd a b : Int) : List Int := kd :: (dg a ++ dg b)
def okK (kd a b : Int) : Prop := (0 ≤ kd ∧ kd ≤ 255) ∧ ok40 a ∧ ok40 b
instance (kd a b : Int) : Decidable (okK kd a b) := by unfold okK; infer_instance
theorem Key_eq (kd a b : Int) (k : Nat) (hk : 10 < k) : rec_Key.f k kd a b = some (if okK kd a b then (keyL kd a b, none) else ([], some 103)) := by
  unfold rec_Key.f
  obtain ⟨k', hk'⟩ : ∃ m, k = m + 1 := ⟨k - 1, by omega⟩
  have hj : ∀ x y z, rec_Key.j0 k true x y z = some ([], some 103) := by intro x y z; rw [hk']; simp [rec_Key.j0]
  by_cases h1 : kd < 0
  · rw [if_pos h1, hj, if_neg (by unfold okK ok40; omega)]
  rw [if_neg h1]
  by_cases h2 : kd > 255
  · rw [if_pos h2, hj, if_neg (by unfold okK ok40; omega)]
  rw [if_neg h2]
  by_cases h3 : a < 0
  · rw [if_pos h3, hj, if_neg (by unfold okK ok40; omega)]
  rw [if_neg h3]
  by_cases h4 : a > 1099511627775
  · rw [if_pos h4, hj, if_neg (by unfold okK ok40; omega)]
  rw [if_neg h4]
  by_cases h5 : b < 0
  · rw [if_pos h5, hj, if_neg (by unfold okK ok40; omega)]
  rw [if_neg h5]
  by_cases h6 : b > 1099511627775
  · rw [decide_eq_true h6, hj, if_neg (by unfold okK ok40; omega)]
  rw [decide_eq_false h6, if_pos (by unfold okK ok40; omega), hk']
  simp only [rec_Key.j0, Bool.false_eq_true, if_false]
  rw [put_eq _ _ (by simp) k' (by omega)]
  simp only [Option.bind_some]
  rw [put_eq _ _ (by simp [dg]) k' (by omega)]
  simp only [Option.bind_some, keyL]
  rw [show kd % 256 = kd by omega]
  rfl
theorem Same_l0 (xs ys : List Int) (h : xs.length = ys.length) (hl : xs.length < 1000000) : ∀ (d i k : Nat), xs.length - i = d → i ≤ xs.length → d < k →
    pledgeref_SameBytes.l0 k xs ys (i : Int) = some (decide (xs.drop i = ys.drop i)) := by
  intro d
  induction d with
  | zero =>
    intro i k hd hi hk
    obtain ⟨k, rfl⟩ : ∃ m, k = m + 1 := ⟨k - 1, by omega⟩
    simp only [pledgeref_SameBytes.l0]
    rw [if_neg (by omega), List.drop_eq_nil_of_le (by omega), List.drop_eq_nil_of_le (by omega)]
    simp
  | succ d ih =>
    intro i k hd hi hk
    obtain ⟨k, rfl⟩ : ∃ m, k = m + 1 := ⟨k - 1, by omega⟩
    simp only [pledgeref_SameBytes.l0]
    have n1 : i < xs.length := by omega
    have n2 : i < ys.length := by omega
    have := ih (i + 1) k (by omega) (by omega) (by omega)
    have e : wrap64 ((i : Int) + 1) = ((i + 1 : Nat) : Int) := by rw [w64s _ (by omega) (by omega)]; omega
    rw [if_pos (by omega), if_pos (by omega), if_pos (by omega), e, this]
    have ex : rd xs (i : Int) = xs[i] := by rw [rd_nat, List.getD_eq_getElem?_getD, List.getElem?_eq_getElem n1]; rfl
    have ey : rd ys (i : Int) = ys[i] := by rw [rd_nat, List.getD_eq_getElem?_getD, List.getElem?_eq_getElem n2]; rfl
    rw [List.drop_eq_getElem_cons n1, List.drop_eq_getElem_cons n2, ex, ey]
    by_cases hx : xs[i] = ys[i]
    · rw [if_pos hx]; exact congrArg some (decide_eq_decide.2 ⟨fun z => by rw [hx, z], fun z => (List.cons.inj z).2⟩)
    · rw [if_neg hx, decide_eq_false (fun z => hx (List.cons.inj z).1)]
theorem Same_eq (xs ys : List Int) (hl : xs.length < 1000000) (k : Nat) (hk : xs.length < k) : pledgeref_SameBytes.f k xs ys = some (decide (xs = ys)) := by
  unfold pledgeref_SameBytes.f
  by_cases h : xs.length = ys.length
  · rw [if_pos (by omega)]
    have := Same_l0 xs ys h hl xs.length 0 k (by omega) (by omega) hk
    simpa using this
  · rw [if_neg (by omega), decide_eq_false (fun e => h (by rw [e]))]
theorem first9_eq (k : Nat) (hk : 20 < k) : pledgelaw9_first.f k = some true := by
  unfold pledgelaw9_first.f
  rw [Key_eq 1 2 3 k (by omega), if_pos (by decide)]
  simp only [Option.bind_some, Option.isNone_none, if_true]
  rw [Same_eq _ _ (by simp [keyL, dg]) k (by simp [keyL, dg]; omega)]
  rfl
theorem u64w (n : Int) : IntKind.u64.wrap n = n % 18446744073709551616 := by rw [IntKind.wrap_u64]
theorem rkey1_step (a b : Int) (l : List Int) (hl : l.length < 1000000) (i : Nat) (hi : i < 5) (k : Nat) :
    pledgeref5_Key.l0 (k + 1) a b l (i : Int) = pledgeref5_Key.l0 k a b (l ++ [a / 2 ^ (8 * i) % 256]) ((i : Int) - 1) := by
  simp only [pledgeref5_Key.l0]
  have e : IntKind.u64.wrap (wrap64 (8 * (i : Int))) = ((8 * i : Nat) : Int) := by rw [w64s _ (by omega) (by omega), u64w]; omega
  rw [if_pos (by omega), e, if_pos (by omega), if_pos (by omega), shr_i a (8 * i) (by omega), w64s _ (by omega) (by omega)]
theorem rkey2_step (b : Int) (l : List Int) (hl : l.length < 1000000) (i : Nat) (hi : i < 5) (k : Nat) :
    pledgeref5_Key.l1 (k + 1) b l (i : Int) = pledgeref5_Key.l1 k b (l ++ [b / 2 ^ (8 * i) % 256]) ((i : Int) - 1) := by
  simp only [pledgeref5_Key.l1]
  have e : IntKind.u64.wrap (wrap64 (8 * (i : Int))) = ((8 * i : Nat) : Int) := by rw [w64s _ (by omega) (by omega), u64w]; omega
  rw [if_pos (by omega), e, if_pos (by omega), if_pos (by omega), shr_i b (8 * i) (by omega), w64s _ (by omega) (by omega)]
theorem rkey2_eq (l : List Int) (b : Int) (hl : l.length < 900000) (k : Nat) : pledgeref5_Key.l1 (k + 6) b l 4 = some (l ++ dg b, 0) := by
  have h4 := rkey2_step b l (by omega) 4 (by omega) (k + 5)
  rw [show ((4 : Nat) : Int) = 4 from rfl] at h4
  rw [show k + 6 = k + 5 + 1 by omega, h4]
  have h3 := rkey2_step b (l ++ [b / 2 ^ (8 * 4) % 256]) (by simp; omega) 3 (by omega) (k + 4)
  rw [show ((3 : Nat) : Int) = (4 : Int) - 1 from rfl] at h3
  rw [show k + 5 = k + 4 + 1 by omega, h3]
  have h2 := rkey2_step b (l ++ [b / 2 ^ (8 * 4) % 256] ++ [b / 2 ^ (8 * 3) % 256]) (by simp; omega) 2 (by omega) (k + 3)
  rw [show ((2 : Nat) : Int) = (4 : Int) - 1 - 1 from rfl] at h2
  rw [show k + 4 = k + 3 + 1 by omega, h2]
  have h1 := rkey2_step b (l ++ [b / 2 ^ (8 * 4) % 256] ++ [b / 2 ^ (8 * 3) % 256] ++ [b / 2 ^ (8 * 2) % 256]) (by simp; omega) 1 (by omega) (k + 2)
  rw [show ((1 : Nat) : Int) = (4 : Int) - 1 - 1 - 1 from rfl] at h1
  rw [show k + 3 = k + 2 + 1 by omega, h1]
  have h0 := rkey2_step b (l ++ [b / 2 ^ (8 * 4) % 256] ++ [b / 2 ^ (8 * 3) % 256] ++ [b / 2 ^ (8 * 2) % 256] ++ [b / 2 ^ (8 * 1) % 256]) (by simp; omega) 0 (by omega) (k + 1)
  rw [show ((0 : Nat) : Int) = (4 : Int) - 1 - 1 - 1 - 1 from rfl] at h0
  rw [show k + 2 = k + 1 + 1 by omega, h0]
  simp only [pledgeref5_Key.l1]
  rw [if_neg (by omega)]
  simp [dg]
theorem rkey1_eq (l : List Int) (a b : Int) (hl : l.length < 900000) (k : Nat) : pledgeref5_Key.l0 (k + 6) a b l 4 = pledgeref5_Key.l1 k b (l ++ dg a) 4 := by
  have h4 := rkey1_step a b l (by omega) 4 (by omega) (k + 5)
  rw [show ((4 : Nat) : Int) = 4 from rfl] at h4
  rw [show k + 6 = k + 5 + 1 by omega, h4]
  have h3 := rkey1_step a b (l ++ [a / 2 ^ (8 * 4) % 256]) (by simp; omega) 3 (by omega) (k + 4)
  rw [show ((3 : Nat) : Int) = (4 : Int) - 1 from rfl] at h3
  rw [show k + 5 = k + 4 + 1 by omega, h3]
  have h2 := rkey1_step a b (l ++ [a / 2 ^ (8 * 4) % 256] ++ [a / 2 ^ (8 * 3) % 256]) (by simp; omega) 2 (by omega) (k + 3)
  rw [show ((2 : Nat) : Int) = (4 : Int) - 1 - 1 from rfl] at h2
  rw [show k + 4 = k + 3 + 1 by omega, h2]
  have h1 := rkey1_step a b (l ++ [a / 2 ^ (8 * 4) % 256] ++ [a / 2 ^ (8 * 3) % 256] ++ [a / 2 ^ (8 * 2) % 256]) (by simp; omega) 1 (by omega) (k + 2)
  rw [show ((1 : Nat) : Int) = (4 : Int) - 1 - 1 - 1 from rfl] at h1
  rw [show k + 3 = k + 2 + 1 by omega, h1]
  have h0 := rkey1_step a b (l ++ [a / 2 ^ (8 * 4) % 256] ++ [a / 2 ^ (8 * 3) % 256] ++ [a / 2 ^ (8 * 2) % 256] ++ [a / 2 ^ (8 * 1) % 256]) (by simp; omega) 0 (by omega) (k + 1)
  rw [show ((0 : Nat) : Int) = (4 : Int) - 1 - 1 - 1 - 1 from rfl] at h0
  rw [show k + 2 = k + 1 + 1 by omega, h0]
  simp only [pledgeref5_Key.l0]
  rw [if_neg (by omega)]
  simp [dg]
theorem RKey_eq (kd a b : Int) (k : Nat) (hk : 20 < k) : pledgeref5_Key.f k kd a b = some (if okK kd a b then (keyL kd a b, 0) else ([], 103)) := by
  unfold pledgeref5_Key.f
  obtain ⟨k', hk'⟩ : ∃ m, k = m + 1 := ⟨k - 1, by omega⟩
  have hj : ∀ x y z, pledgeref5_Key.j0 k x y z true = some ([], 103) := by intro x y z; rw [hk']; simp [pledgeref5_Key.j0]
  by_cases h1 : kd < 0
  · rw [if_pos h1, hj, if_neg (by unfold okK ok40; omega)]
  rw [if_neg h1]
  by_cases h2 : kd > 255
  · rw [if_pos h2, hj, if_neg (by unfold okK ok40; omega)]
  rw [if_neg h2]
  by_cases h3 : a < 0
  · rw [if_pos h3, hj, if_neg (by unfold okK ok40; omega)]
  rw [if_neg h3]
  by_cases h4 : a ≥ 1099511627776
  · rw [if_pos h4, hj, if_neg (by unfold okK ok40; omega)]
  rw [if_neg h4]
  by_cases h5 : b < 0
  · rw [if_pos h5, hj, if_neg (by unfold okK ok40; omega)]
  rw [if_neg h5]
  by_cases h6 : b ≥ 1099511627776
  · rw [decide_eq_true h6, hj, if_neg (by unfold okK ok40; omega)]
  rw [decide_eq_false h6, if_pos (by unfold okK ok40; omega), hk']
  simp only [pledgeref5_Key.j0, Bool.false_eq_true, if_false]
  obtain ⟨k2, rfl⟩ : ∃ m, k' = m + 6 + 6 := ⟨k' - 12, by omega⟩
  rw [rkey1_eq _ _ _ (by simp) (k2 + 6), rkey2_eq _ _ (by simp [dg]) k2]
  simp only [keyL]
  rw [show kd % 256 = kd by omega]
  rfl
def F (x d : Int) : Int := Go.bits .or .i64 (wrap64 (x * 256)) (wrap64 d)
theorem nstep (x : Int) (l : List Int) (n : Int) (i : Nat) (hi : (i : Int) < n) (hn : n = (l.length : Int)) (hl : l.length < 1000) (k : Nat) : rec_number.l0 (k + 1) x l n (i : Int) = rec_number.l0 k (F x (l.getD i 0)) l n ((i + 1 : Nat) : Int) := by
  simp only [rec_number.l0]
  have e : wrap64 ((i : Int) + 1) = ((i + 1 : Nat) : Int) := by rw [w64s _ (by omega) (by omega)]; omega
  rw [if_pos (by omega), if_pos (by omega), if_pos (by omega), e, rd_nat]
  rfl
theorem rnstep (l : List Int) (hl : l.length = 11) (x y : Int) (i : Nat) (h1 : 1 ≤ i) (hi : i ≤ 5) (k : Nat) : pledgeref5_Read.l0 (k + 1) l x y (i : Int) = pledgeref5_Read.l0 k l (F x (l.getD i 0)) (F y (l.getD (i + 5) 0)) ((i + 1 : Nat) : Int) := by
  simp only [pledgeref5_Read.l0]
  have e : wrap64 ((i : Int) + 1) = ((i + 1 : Nat) : Int) := by rw [w64s _ (by omega) (by omega)]; omega
  have e5 : wrap64 ((i : Int) + 5) = ((i + 5 : Nat) : Int) := by rw [w64s _ (by omega) (by omega)]; omega
  rw [if_pos (by omega), if_pos (by omega), if_pos (by omega), e5, if_pos (by omega), if_pos (by omega), e, rd_nat, rd_nat]
  rfl
theorem num5 (l : List Int) (hl : 5 ≤ l.length) (k : Nat) : rec_number.f (k + 6) l = some (F (F (F (F (F 0 (l.getD 0 0)) (l.getD 1 0)) (l.getD 2 0)) (l.getD 3 0)) (l.getD 4 0)) := by
  unfold rec_number.f
  rw [if_pos (by omega)]
  have ht : (l.take 5).length = 5 := by rw [List.length_take]; omega
  have hg : ∀ i : Nat, i < 5 → (l.take 5).getD i 0 = l.getD i 0 := fun i hi => by rw [List.getD_eq_getElem?_getD, List.getD_eq_getElem?_getD, List.getElem?_take_of_lt hi]
  have s0 := nstep 0 (l.take 5) ((l.take 5).length : Int) 0 (by omega) rfl (by omega) (k + 5)
  rw [show ((0 : Nat) : Int) = 0 from rfl] at s0
  rw [show k + 6 = k + 5 + 1 by omega, s0, show k + 5 = k + 4 + 1 by omega, nstep _ (l.take 5) _ (0 + 1) (by omega) rfl (by omega) (k + 4), show k + 4 = k + 3 + 1 by omega, nstep _ (l.take 5) _ (0 + 1 + 1) (by omega) rfl (by omega) (k + 3), show k + 3 = k + 2 + 1 by omega, nstep _ (l.take 5) _ (0 + 1 + 1 + 1) (by omega) rfl (by omega) (k + 2), show k + 2 = k + 1 + 1 by omega, nstep _ (l.take 5) _ (0 + 1 + 1 + 1 + 1) (by omega) rfl (by omega) (k + 1)]
  simp only [rec_number.l0]
  rw [if_neg (by omega), hg 0 (by omega), hg (0 + 1) (by omega), hg (0 + 1 + 1) (by omega), hg (0 + 1 + 1 + 1) (by omega), hg (0 + 1 + 1 + 1 + 1) (by omega)]
theorem Read_same (l : List Int) (k : Nat) (hk : 20 < k) : ∃ q1 q2 q3 q4, rec_Read.f k l = some (q1, q2, q3, q4) ∧ pledgeref5_Read.f k l = some (q1, q2, q3, q4.getD 0) ∧ (q4 = none ∨ q4 = some 101 ∨ q4 = some 102) := by
  unfold rec_Read.f pledgeref5_Read.f
  by_cases h1 : (l.length : Int) < 11
  · exact ⟨0, 0, 0, some 101, by rw [if_pos h1], by rw [if_pos h1]; rfl, .inr (.inl rfl)⟩
  by_cases h2 : (l.length : Int) > 11
  · exact ⟨0, 0, 0, some 102, by rw [if_neg h1, if_pos h2], by rw [if_neg h1, if_pos h2]; rfl, .inr (.inr rfl)⟩
  have hl : l.length = 11 := by omega
  have hd : ∀ j i : Nat, (l.drop j).getD i 0 = l.getD (j + i) 0 := fun j i => by rw [List.getD_eq_getElem?_getD, List.getD_eq_getElem?_getD, List.getElem?_drop]
  obtain ⟨k, rfl⟩ : ∃ m, k = m + 6 := ⟨k - 6, by omega⟩
  refine ⟨wrap64 (rd l 0), F (F (F (F (F 0 (l.getD 1 0)) (l.getD 2 0)) (l.getD 3 0)) (l.getD 4 0)) (l.getD 5 0), F (F (F (F (F 0 (l.getD 6 0)) (l.getD 7 0)) (l.getD 8 0)) (l.getD 9 0)) (l.getD 10 0), none, ?_, ?_, .inl rfl⟩
  · rw [if_neg h1, if_neg h2, if_pos (by omega), if_pos (by omega), num5 (l.drop 1) (by rw [List.length_drop]; omega) k, Option.bind_some, if_pos (by omega), num5 (l.drop 6) (by rw [List.length_drop]; omega) k, Option.bind_some]
    simp only [hd]
  · rw [if_neg h1, if_neg h2]
    have s1 := rnstep l hl 0 0 1 (by omega) (by omega) (k + 5)
    rw [show ((1 : Nat) : Int) = 1 from rfl] at s1
    rw [show k + 6 = k + 5 + 1 by omega, s1, show k + 5 = k + 4 + 1 by omega, rnstep l hl _ _ (1 + 1) (by omega) (by omega) (k + 4), show k + 4 = k + 3 + 1 by omega, rnstep l hl _ _ (1 + 1 + 1) (by omega) (by omega) (k + 3), show k + 3 = k + 2 + 1 by omega, rnstep l hl _ _ (1 + 1 + 1 + 1) (by omega) (by omega) (k + 2), show k + 2 = k + 1 + 1 by omega, rnstep l hl _ _ (1 + 1 + 1 + 1 + 1) (by omega) (by omega) (k + 1)]
    simp only [pledgeref5_Read.l0]
    rw [if_neg (by omega), if_pos (by omega)]
    rfl
end Go.Proofs.YtelabafoknmkcaaDoor.PrRecSaysR
namespace Go.Proofs.YtelabafoknmkcaaDoor.PrRecSays
open Go.RowKit Go.Proofs.YtelabafoknmkcaaDoor.ERecSays Go.Proofs.YtelabafoknmkcaaDoorW.PrintWords Go.Proofs.YtelabafoknmkcaaDoorW.PrintLast Go.Proofs.YtelabafoknmkcaaDoorW.PrintMore Go.Proofs.YtelabafoknmkcaaDoorW.PrintOpen
set_option linter.unusedSimpArgs false
set_option linter.unusedVariables false
theorem w64 (x : Int) (h1 : -9223372036854775808 ≤ x) (h2 : x ≤ 9223372036854775807) : wrap64 x = x := by unfold wrap64; omega
theorem w64s (x : Int) (h1 : -1000000000 ≤ x) (h2 : x ≤ 1000000000) : wrap64 x = x := by unfold wrap64; omega
theorem wu64 (n : Int) : IntKind.u64.wrap n = n % 18446744073709551616 := by simp [IntKind.wrap, IntKind.bits, IntKind.signed]
theorem rd_nat (l : List Int) (i : Nat) : rd l (i : Int) = l.getD i 0 := by unfold rd; rw [Int.toNat_natCast]
theorem rd_mem (l : List Int) (i : Nat) (h : i < l.length) : rd l (i : Int) ∈ l := by
  rw [rd_nat, List.getD_eq_getElem?_getD, List.getElem?_eq_getElem h]; exact List.getElem_mem h
theorem take_snoc_sum (l : List Int) (i : Nat) (h : i < l.length) : (l.take (i + 1)).sum = (l.take i).sum + rd l (i : Int) := by
  rw [List.take_succ_eq_append_getElem h, List.sum_append, rd_nat, List.getD_eq_getElem?_getD, List.getElem?_eq_getElem h]; simp
theorem Bytes_l0 (xs : List Int) (hl : xs.length < 1000000) : ∀ (d i k : Nat), xs.length - i = d → i ≤ xs.length → d < k → pledgeref_Bytes.l0 k xs (xs.take i) (i : Int) = some xs := by
  intro d
  induction d with
  | zero =>
    intro i k hd hi hk
    obtain ⟨k, rfl⟩ : ∃ m, k = m + 1 := ⟨k - 1, by omega⟩
    simp only [pledgeref_Bytes.l0]
    rw [if_neg (by omega), List.take_of_length_le (by omega)]
  | succ d ih =>
    intro i k hd hi hk
    obtain ⟨k, rfl⟩ : ∃ m, k = m + 1 := ⟨k - 1, by omega⟩
    simp only [pledgeref_Bytes.l0]
    have n1 : i < xs.length := by omega
    have e : wrap64 ((i : Int) + 1) = ((i + 1 : Nat) : Int) := by rw [w64s _ (by omega) (by omega)]; omega
    have e3 : xs.take i ++ [rd xs (i : Int)] = xs.take (i + 1) := by
      rw [List.take_succ_eq_append_getElem n1, rd_nat, List.getD_eq_getElem?_getD, List.getElem?_eq_getElem n1]; rfl
    rw [if_pos (by omega), if_pos (by omega), if_pos (by rw [List.length_take]; omega), e, e3]
    exact ih (i + 1) k (by omega) (by omega) (by omega)
theorem Bytes_eq (xs : List Int) (hl : xs.length < 1000000) (k : Nat) (hk : xs.length < k) : pledgeref_Bytes.f k xs = some xs := by
  unfold pledgeref_Bytes.f
  rw [if_pos (by omega), if_pos (by omega)]
  have := Bytes_l0 xs hl xs.length 0 k (by omega) (by omega) hk
  simpa using this
theorem xor_max (x : Int) (h0 : 0 ≤ x) (h1 : x < 18446744073709551616) : Go.bits .xor .u64 IntKind.u64.max x = 18446744073709551615 - x := by
  obtain ⟨n, rfl⟩ := Int.eq_ofNat_of_zero_le h0
  have en : (BitVec.ofInt 64 (n : Int)).toNat = n := by
    rw [BitVec.toNat_ofInt, show ((2 ^ 64 : Nat) : Int) = 18446744073709551616 from rfl]
    omega
  show IntKind.u64.wrap (((BitVec.ofInt 64 IntKind.u64.max) ^^^ (BitVec.ofInt 64 (n : Int))).toNat : Int) = _
  have em : BitVec.ofInt 64 IntKind.u64.max = BitVec.allOnes 64 := rfl
  rw [em, BitVec.allOnes_xor, BitVec.toNat_not, en, wu64]
  omega
def In64' (n : Int) : Prop := -9223372036854775808 ≤ n ∧ n ≤ 9223372036854775807
theorem u64_id (n : Int) (h0 : 0 ≤ n) (h1 : n < 2 ^ 64) : IntKind.u64.wrap n = n := by
  rw [wu64]; exact Int.emod_eq_of_lt h0 h1
theorem u8_id (n : Int) (h0 : 0 ≤ n) (h1 : n < 2 ^ 8) : IntKind.u8.wrap n = n := wraps_u8 n h0 h1
theorem or_comm_u64 (x y : Int) : Go.bits .or .u64 x y = Go.bits .or .u64 y x := by
  show IntKind.u64.wrap _ = IntKind.u64.wrap _
  rw [BitVec.or_comm]
theorem or_u8_128 (z : Int) (h0 : 0 ≤ z) : Go.bits .or .u8 (z % 256) 128 = z % 128 + 128 := by
  have h1 : ∀ m : Fin 256, Go.bits .or .u8 ((m.1 : Nat) : Int) 128 = ((m.1 : Nat) : Int) % 128 + 128 := by decide +kernel
  obtain ⟨m, hm⟩ := Int.eq_ofNat_of_zero_le (show 0 ≤ z % 256 by omega)
  have h2 : Go.bits .or .u8 (m : Int) 128 = (m : Int) % 128 + 128 := h1 ⟨m, by omega⟩
  rw [hm, h2]
  omega
theorem andNot_128 (x : Int) (h0 : 0 ≤ x) (h1 : x < 256) : Go.bits .andNot .u8 x 128 = x % 128 := by
  have h : ∀ m : Fin 256, Go.bits .andNot .u8 ((m.1 : Nat) : Int) 128 = ((m.1 : Nat) : Int) % 128 := by decide +kernel
  obtain ⟨m, rfl⟩ := Int.eq_ofNat_of_zero_le h0
  exact h ⟨m, by omega⟩
theorem zN_eq (z x : Int) (i : Nat) (hi : i ≤ 9) (hx0 : 0 ≤ x) (hx1 : x < 256) (hz0 : 0 ≤ z) (hz1 : z < 2 ^ (7 * i)) (hm : x % 128 * 2 ^ (7 * i) < 2 ^ 64) : zN z x i = z + x % 128 * 2 ^ (7 * i) := by
  have hp : (0 : Int) < 2 ^ (7 * i) := Int.pow_pos (by omega)
  have hle : (2 : Int) ^ (7 * i) ≤ 2 ^ 64 := by
    have : 2 ^ (7 * i) ≤ 2 ^ 64 := Nat.pow_le_pow_right (by omega) (by omega)
    exact_mod_cast this
  have hm0 : 0 ≤ x % 128 * 2 ^ (7 * i) := Int.mul_nonneg (by omega) (by omega)
  unfold zN
  rw [andNot_128 x hx0 hx1, u64_id (x % 128) (by omega) (by omega), w64s _ (by omega) (by omega), show (7 * (i : Int)).toNat = 7 * i by omega, Nat.min_eq_left (by omega), u64_id _ hm0 hm, or_comm_u64,
    bits_join .u64 64 (by decide) u64_id (7 * i) _ _ hm0 (Int.mul_emod_left _ _) hm hz0 hz1 (by omega), Int.add_comm]
theorem xor_zero64 (x : Int) (h0 : 0 ≤ x) (h1 : x < 9223372036854775808) : Go.bits .xor .i64 x 0 = x := by
  obtain ⟨n, rfl⟩ := Int.eq_ofNat_of_zero_le h0
  have en : (BitVec.ofInt 64 (n : Int)).toNat = n := by
    rw [BitVec.toNat_ofInt, show ((2 ^ 64 : Nat) : Int) = 18446744073709551616 from rfl]; omega
  show IntKind.i64.wrap (((BitVec.ofInt 64 (n : Int)) ^^^ (BitVec.ofInt 64 0)).toNat : Int) = _
  rw [show BitVec.ofInt 64 0 = 0#64 from rfl, BitVec.xor_zero, en, IntKind.wrap_i64]
  omega
theorem xor_neg64 (x : Int) (h0 : 0 ≤ x) (h1 : x < 9223372036854775808) : Go.bits .xor .i64 x (-1) = -x - 1 := by
  obtain ⟨n, rfl⟩ := Int.eq_ofNat_of_zero_le h0
  have en : (BitVec.ofInt 64 (n : Int)).toNat = n := by
    rw [BitVec.toNat_ofInt, show ((2 ^ 64 : Nat) : Int) = 18446744073709551616 from rfl]; omega
  show IntKind.i64.wrap (((BitVec.ofInt 64 (n : Int)) ^^^ (BitVec.ofInt 64 (-1))).toNat : Int) = _
  rw [show BitVec.ofInt 64 (-1) = BitVec.allOnes 64 from rfl, BitVec.xor_allOnes, BitVec.toNat_not, en, IntKind.wrap_i64]
  omega
theorem dcN_eq (z : Int) (h0 : 0 ≤ z) (h1 : z < 2 ^ 64) : dcN z = if z % 2 = 0 then z / 2 else -(z / 2) - 1 := by
  have h2 : Go.bits .and .u64 z 1 = z % 2 := bits_mask .u64 64 (by decide) u64_id 1 (by decide) z h0 h1
  have h1' : z < 18446744073709551616 := h1
  unfold dcN
  rw [h2, w64s (z % 2) (by omega) (by omega), w64s (-(z % 2)) (by omega) (by omega), w64 (z / 2) (by omega) (by omega)]
  by_cases h : z % 2 = 0
  · rw [if_pos h, h]; exact xor_zero64 _ (by omega) (by omega)
  · rw [if_neg h, show z % 2 = 1 by omega]; exact xor_neg64 _ (by omega) (by omega)
/-- A number without a sign. -/
def zz (n : Int) : Int := if 0 ≤ n then 2 * n else -2 * n - 1
theorem zz_bd (n : Int) (h : In64' n) : 0 ≤ zz n ∧ zz n < 2 ^ 64 := by
  obtain ⟨h0, h1⟩ := h; unfold zz; split <;> omega
theorem dc_zz (n : Int) (h : In64' n) : dcN (zz n) = n := by
  rw [dcN_eq _ (zz_bd n h).1 (zz_bd n h).2]
  unfold zz; split <;> split <;> omega
theorem xor_zero_u64 (x : Int) (h0 : 0 ≤ x) (h1 : x < 18446744073709551616) : Go.bits .xor .u64 x 0 = x := by
  obtain ⟨n, rfl⟩ := Int.eq_ofNat_of_zero_le h0
  have en : (BitVec.ofInt 64 (n : Int)).toNat = n := by
    rw [BitVec.toNat_ofInt, show ((2 ^ 64 : Nat) : Int) = 18446744073709551616 from rfl]; omega
  show IntKind.u64.wrap (((BitVec.ofInt 64 (n : Int)) ^^^ (BitVec.ofInt 64 0)).toNat : Int) = _
  rw [show BitVec.ofInt 64 0 = 0#64 from rfl, BitVec.xor_zero, en, wu64]
  omega
theorem xor_max_u64 (x : Int) (h0 : 0 ≤ x) (h1 : x < 18446744073709551616) : Go.bits .xor .u64 x 18446744073709551615 = 18446744073709551615 - x := by
  obtain ⟨n, rfl⟩ := Int.eq_ofNat_of_zero_le h0
  have en : (BitVec.ofInt 64 (n : Int)).toNat = n := by
    rw [BitVec.toNat_ofInt, show ((2 ^ 64 : Nat) : Int) = 18446744073709551616 from rfl]; omega
  show IntKind.u64.wrap (((BitVec.ofInt 64 (n : Int)) ^^^ (BitVec.ofInt 64 18446744073709551615)).toNat : Int) = _
  rw [show BitVec.ofInt 64 18446744073709551615 = BitVec.allOnes 64 from rfl, BitVec.xor_allOnes, BitVec.toNat_not, en, wu64]
  omega
theorem zz_bits (n : Int) (h : In64' n) : Go.bits .xor .u64 (IntKind.u64.wrap ((IntKind.u64.wrap n) * 2)) (IntKind.u64.wrap (n / 9223372036854775808)) = zz n := by
  obtain ⟨h0, h1⟩ := h
  rw [wu64, wu64, wu64]
  unfold zz
  by_cases hn : 0 ≤ n
  · rw [if_pos hn, show n / 9223372036854775808 % 18446744073709551616 = 0 by omega, xor_zero_u64 _ (by omega) (by omega)]; omega
  · rw [if_neg hn, show n / 9223372036854775808 % 18446744073709551616 = 18446744073709551615 by omega, xor_max_u64 _ (by omega) (by omega)]; omega
/-- A number's bytes: at most d and one. -/
def vbF : Nat → Int → List Int
  | 0, z => [z]
  | d + 1, z => if z < 128 then [z] else (z % 128 + 128) :: vbF d (z / 128)
def enc (n : Int) : List Int := vbF 9 (zz n)
theorem vbF_len : ∀ (d : Nat) (z : Int), 1 ≤ (vbF d z).length ∧ (vbF d z).length ≤ d + 1
  | 0, z => by simp [vbF]
  | d + 1, z => by
    have := vbF_len d (z / 128)
    unfold vbF; split
    · simp
    · simp only [List.length_cons]; omega
theorem enc_len (n : Int) : 1 ≤ (enc n).length ∧ (enc n).length ≤ 10 := vbF_len 9 _
theorem put_l0 : ∀ (d : Nat) (z : Int) (b : List Int) (k : Nat), 0 ≤ z → z < 128 ^ (d + 1) → b.length + d < 1000000 → d < k → wire_put.l0 k b z = some (b ++ vbF d z)
  | 0, z, b, k, h0, h1, hb, hk => by
    obtain ⟨k, rfl⟩ : ∃ m, k = m + 1 := ⟨k - 1, by omega⟩
    have h1' : z < 128 := by simpa using h1
    simp only [wire_put.l0, vbF]
    rw [if_neg (by omega), if_pos (by omega), show z % 256 = z by omega]
  | d + 1, z, b, k, h0, h1, hb, hk => by
    obtain ⟨k, rfl⟩ : ∃ m, k = m + 1 := ⟨k - 1, by omega⟩
    simp only [wire_put.l0, vbF]
    by_cases h : z < 128
    · rw [if_neg (by omega), if_pos (by omega), if_pos h, show z % 256 = z by omega]
    · have h2 : z / 128 < 128 ^ (d + 1) := by
        have e : (128 : Int) ^ (d + 1 + 1) = 128 ^ (d + 1) * 128 := Int.pow_succ ..
        rw [e] at h1
        generalize (128 : Int) ^ (d + 1) = P at h1 ⊢
        omega
      rw [if_pos (by omega), if_pos (by omega), if_neg h, or_u8_128 z h0, put_l0 d (z / 128) _ k (by omega) h2 (by simp; omega) (by omega), List.append_assoc]
      rfl
theorem put_eq (b : List Int) (n : Int) (h : In64' n) (hb : b.length < 900000) (k : Nat) (hk : 20 < k) : wire_put.f k b n = some (b ++ enc n) := by
  unfold wire_put.f enc
  rw [zz_bits n h]
  have := zz_bd n h
  exact put_l0 9 _ b k this.1 (Int.lt_trans this.2 (by decide)) (by omega) (by omega)
/-- All numbers' bytes. -/
def encs : List Int → List Int
  | [] => []
  | n :: r => enc n ++ encs r
theorem encs_append : ∀ (a b : List Int), encs (a ++ b) = encs a ++ encs b
  | [], b => rfl
  | n :: r, b => by simp only [List.cons_append, encs, encs_append r b, List.append_assoc]
theorem encs_len : ∀ l : List Int, l.length ≤ (encs l).length ∧ (encs l).length ≤ 10 * l.length
  | [] => by simp [encs]
  | n :: r => by
    have h1 := encs_len r
    have h2 := enc_len n
    simp only [encs, List.length_append, List.length_cons]; omega
theorem Put_l0 (l : List Int) (hl : l.length ≤ 1000) (hn : ∀ n ∈ l, In64' n) (b : List Int) (hb : b.length ≤ 1000) : ∀ (d i k : Nat), i + d = l.length → d + 40 < k → wire_Put.l0 k (b ++ encs (l.take i)) l (l.length : Int) (i : Int) = some (b ++ encs l)
  | 0, i, k, h, hk => by
    obtain ⟨k, rfl⟩ : ∃ m, k = m + 1 := ⟨k - 1, by omega⟩
    simp only [wire_Put.l0]
    rw [if_neg (by omega), List.take_of_length_le (by omega)]
  | d + 1, i, k, h, hk => by
    obtain ⟨k, rfl⟩ : ∃ m, k = m + 1 := ⟨k - 1, by omega⟩
    have hi : i < l.length := by omega
    have e : wrap64 ((i : Int) + 1) = ((i + 1 : Nat) : Int) := by rw [w64s _ (by omega) (by omega)]; omega
    have et : l.take (i + 1) = l.take i ++ [rd l (i : Int)] := by
      rw [List.take_succ_eq_append_getElem hi, rd_nat, List.getD_eq_getElem?_getD, List.getElem?_eq_getElem hi]; rfl
    have ee : b ++ encs (l.take i) ++ enc (rd l (i : Int)) = b ++ encs (l.take (i + 1)) := by
      rw [et, encs_append]; simp [encs]
    have hlen := (encs_len (l.take i)).2
    rw [List.length_take] at hlen
    simp only [wire_Put.l0]
    rw [if_pos (by omega), if_pos (by omega), if_pos (by omega), put_eq _ _ (hn _ (rd_mem l i hi)) (by rw [List.length_append]; omega) k (by omega), Option.bind_some, e, ee]
    exact Put_l0 l hl hn b hb d (i + 1) k (by omega) (by omega)
theorem Put_eq (b l : List Int) (hl : l.length ≤ 1000) (hn : ∀ n ∈ l, In64' n) (hb : b.length ≤ 1000) (k : Nat) (hk : l.length + 50 < k) : wire_Put.f k b l = some (b ++ encs l) := by
  unfold wire_Put.f slices_Clone_byte_byte.f
  rw [if_pos (by omega), Option.bind_some]
  have := Put_l0 l hl hn b hb l.length 0 k (by omega) (by omega)
  simpa [encs] using this
theorem rd_mid (p : List Int) (x : Int) (q : List Int) (at_ : Int) (h : at_ = (p.length : Int)) : rd (p ++ x :: q) at_ = x := by
  subst h
  rw [rd_nat, List.getD_eq_getElem?_getD, List.getElem?_append_right (Nat.le_refl _), Nat.sub_self]; rfl
theorem nmF_vb (T at_ : Int) (hT : T < 2 ^ 64) (hat : 0 ≤ at_) (q : List Int) : ∀ (d i : Nat) (zr acc : Int) (p b : List Int), d + i = 9 → 0 ≤ zr → 0 ≤ acc → acc < 2 ^ (7 * i) → acc + zr * 2 ^ (7 * i) = T → (0 < i → 0 < zr) → b = p ++ (vbF d zr ++ q) → at_ + (i : Int) = (p.length : Int) →
    nmF b at_ (d + 1) i acc = (dcN T, (i : Int) + ((vbF d zr).length : Int), none) := by
  intro d
  induction d with
  | zero =>
    intro i zr acc p b hd h0 ha0 ha1 hTe hz hb hp
    obtain rfl : i = 9 := by omega
    have hzr : zr ≤ 1 := by
      have e : (2 : Int) ^ (7 * 9) = 9223372036854775808 := by decide
      rw [e] at hTe
      have hT' : T < 18446744073709551616 := hT
      omega
    have hr : rd b (at_ + ((9 : Nat) : Int)) = zr := by rw [hb]; exact rd_mid p zr q _ hp
    have hlen : at_ + ((9 : Nat) : Int) < (b.length : Int) := by rw [hb, hp]; simp [vbF]; omega
    have hzN : zN acc zr 9 = T := by
      rw [zN_eq acc zr 9 (by omega) h0 (by omega) ha0 ha1 (by rw [show zr % 128 = zr by omega]; have := hTe; have hT' : T < 18446744073709551616 := hT; show zr * 9223372036854775808 < 18446744073709551616; omega), show zr % 128 = zr by omega, hTe]
    simp only [nmF]
    rw [if_pos hlen, hr, if_neg (by omega), if_neg (by omega), if_neg (by have := hz (by omega); omega), hzN]
    rfl
  | succ d ih =>
    intro i zr acc p b hd h0 ha0 ha1 hTe hz hb hp
    have hP : (0 : Int) < 2 ^ (7 * i) := Int.pow_pos (by omega)
    have hi8 : i ≤ 8 := by omega
    by_cases h : zr < 128
    · have ev : vbF (d + 1) zr = [zr] := by unfold vbF; rw [if_pos h]
      rw [ev] at hb ⊢
      have hr : rd b (at_ + (i : Int)) = zr := by rw [hb]; exact rd_mid p zr q _ hp
      have hlen : at_ + (i : Int) < (b.length : Int) := by rw [hb, hp]; simp; omega
      have hzN : zN acc zr i = T := by
        rw [zN_eq acc zr i (by omega) h0 (by omega) ha0 ha1 (by rw [show zr % 128 = zr by omega]; omega), show zr % 128 = zr by omega, hTe]
      rw [nmF, if_pos hlen, hr, if_neg (by omega), if_neg (by omega), if_neg (by intro hc; have := hz (by omega); omega), hzN]
      rfl
    · have ev : vbF (d + 1) zr = (zr % 128 + 128) :: vbF d (zr / 128) := by rw [vbF, if_neg h]
      rw [ev] at hb ⊢
      have hr : rd b (at_ + (i : Int)) = zr % 128 + 128 := by rw [hb]; exact rd_mid p _ _ _ hp
      have hlen : at_ + (i : Int) < (b.length : Int) := by rw [hb, hp]; simp; omega
      have e7 : (2 : Int) ^ (7 * (i + 1)) = 2 ^ (7 * i) * 128 := by rw [Nat.mul_add, Int.pow_add]; rfl
      have em : (zr % 128 + 128) % 128 = zr % 128 := by omega
      have hmP : zr % 128 * 2 ^ (7 * i) ≤ 127 * 2 ^ (7 * i) := Int.mul_le_mul_of_nonneg_right (by omega) (by omega)
      have hmP0 : 0 ≤ zr % 128 * 2 ^ (7 * i) := Int.mul_nonneg (by omega) (by omega)
      have hsum : zr % 128 * 2 ^ (7 * i) + zr / 128 * (2 ^ (7 * i) * 128) = zr * 2 ^ (7 * i) := by
        have hz2 : zr = zr % 128 + 128 * (zr / 128) := by omega
        generalize (2 : Int) ^ (7 * i) = P
        generalize zr % 128 = m at hz2 ⊢
        generalize zr / 128 = u at hz2 ⊢
        subst hz2
        grind
      have hq0 : 0 ≤ zr / 128 * (2 ^ (7 * i) * 128) := Int.mul_nonneg (by omega) (by omega)
      have hzN : zN acc (zr % 128 + 128) i = acc + zr % 128 * 2 ^ (7 * i) := by
        rw [zN_eq acc _ i (by omega) (by omega) (by omega) ha0 ha1 (by rw [em]; omega), em]
      have ih' := ih (i + 1) (zr / 128) (acc + zr % 128 * 2 ^ (7 * i)) (p ++ [zr % 128 + 128]) b (by omega) (by omega) (by omega) (by rw [e7]; omega) (by rw [e7]; omega) (by omega) (by rw [hb]; simp) (by rw [List.length_append]; simp; omega)
      rw [nmF, if_pos hlen, hr, if_neg (by omega), if_pos (by omega), hzN, ih']
      simp only [List.length_cons]
      congr 2
      omega
theorem nm_enc (n : Int) (h : In64' n) (p q : List Int) : nm (p ++ (enc n ++ q)) (p.length : Int) = (n, ((enc n).length : Int), none) := by
  have hz := zz_bd n h
  show nmF (p ++ (vbF 9 (zz n) ++ q)) (p.length : Int) (9 + 1) 0 0 = (n, ((vbF 9 (zz n)).length : Int), none)
  rw [nmF_vb (zz n) (p.length : Int) hz.2 (by omega) q 9 0 (zz n) 0 p _ (by omega) hz.1 (by omega) (by decide) (by simp) (by omega) rfl (by omega), dc_zz n h]
  simp
theorem numS_enc (n low high : Int) (h : In64' n) (p q : List Int) (at_ : Int) (ha : at_ = (p.length : Int)) : numS (p ++ (enc n ++ q)) at_ none low high = if n < low ∨ n > high then (0, at_, some (103, at_)) else (n, at_ + ((enc n).length : Int), none) := by
  subst ha
  unfold numS
  rw [nm_enc n h p q]
theorem or_u64_128 (z : Int) (h0 : 0 ≤ z) (h1 : z < 2 ^ 64) : Go.bits .or .u64 (Go.bits .and .u64 z 127) 128 % 256 = z % 128 + 128 := by
  have e : Go.bits .and .u64 z 127 = z % 128 := bits_mask .u64 64 (by decide) u64_id 7 (by decide) z h0 h1
  have h2 : ∀ m : Fin 128, Go.bits .or .u64 ((m.1 : Nat) : Int) 128 = ((m.1 : Nat) : Int) + 128 := by decide +kernel
  obtain ⟨m, hm⟩ := Int.eq_ofNat_of_zero_le (show 0 ≤ z % 128 by omega)
  have h3 : Go.bits .or .u64 (m : Int) 128 = (m : Int) + 128 := h2 ⟨m, by omega⟩
  rw [e, hm, h3]
  omega
theorem rput_l0 : ∀ (d : Nat) (z : Int) (b : List Int) (k : Nat), 0 ≤ z → z < 2 ^ 64 → z < 128 ^ (d + 1) → b.length + d < 1000000 → d < k → pledgeref1_Put.l0 k b z = some (b ++ vbF d z)
  | 0, z, b, k, h0, _, h1, hb, hk => by
    obtain ⟨k, rfl⟩ : ∃ m, k = m + 1 := ⟨k - 1, by omega⟩
    have h1' : z < 128 := by simpa using h1
    simp only [pledgeref1_Put.l0, vbF]
    rw [if_neg (by omega), if_pos (by omega), show z % 256 = z by omega]
  | d + 1, z, b, k, h0, h64, h1, hb, hk => by
    obtain ⟨k, rfl⟩ : ∃ m, k = m + 1 := ⟨k - 1, by omega⟩
    simp only [pledgeref1_Put.l0, vbF]
    by_cases h : z < 128
    · rw [if_neg (by omega), if_pos (by omega), if_pos h, show z % 256 = z by omega]
    · have h2 : z / 128 < 128 ^ (d + 1) := by
        have e : (128 : Int) ^ (d + 1 + 1) = 128 ^ (d + 1) * 128 := Int.pow_succ ..
        rw [e] at h1
        generalize (128 : Int) ^ (d + 1) = P at h1 ⊢
        omega
      rw [if_pos (by omega), if_pos (by omega), if_neg h, or_u64_128 z h0 h64, rput_l0 d (z / 128) _ k (by omega) (Int.lt_of_le_of_lt (by omega) h64) h2 (by simp; omega) (by omega), List.append_assoc]
      rfl
theorem rput_eq (b : List Int) (n : Int) (h : In64' n) (hb : b.length < 900000) (k : Nat) (hk : 1000020 < k) : pledgeref1_Put.f k b n = some (b ++ enc n) := by
  have hz := zz_bd n h
  have key : ∀ z, z = zz n → pledgeref1_Put.j0 k b z = some (b ++ enc n) := fun z e => by
    obtain ⟨k1, rfl⟩ : ∃ m, k = m + 1 := ⟨k - 1, by omega⟩
    simp only [pledgeref1_Put.j0]
    rw [e]
    exact rput_l0 9 _ b k1 hz.1 hz.2 (Int.lt_trans hz.2 (by decide)) (by omega) (by omega)
  unfold pledgeref1_Put.f
  rw [Bytes_eq b (by omega) k (by omega), Option.bind_some]
  obtain ⟨h0, h1⟩ := h
  by_cases hn : n < 0
  · rw [if_pos hn]
    apply key
    rw [wu64, wu64, xor_max _ (by omega) (by omega)]
    unfold zz; rw [if_neg (by omega)]; omega
  · rw [if_neg hn]
    apply key
    rw [wu64, wu64]
    unfold zz; rw [if_pos (by omega)]; omega
theorem Is_none (code : Int) : pledgesee_Is.f none code = some (decide (0 = code)) := by
  unfold pledgesee_Is.f pledgeref_Bare.f pledgesee_Same.f pledgesee_Fault.f pledgeref_None.f pledgeref_SameFault.f
  by_cases h : 0 = code <;> simp [h]
theorem Is_some (c code : Int) (h1 : 101 ≤ c) (h2 : c ≤ 121) : pledgesee_Is.f (some c) code = some (decide (c = code)) := by
  unfold pledgesee_Is.f pledgeref_Bare.f pledgesee_Same.f pledgesee_Fault.f pledgesee_sentinel.f pledgeref_Bare.f pledgeref_SameFault.f
  by_cases h : c = code <;> simp [h, h1, h2] <;> simp [← h, h1, h2]
theorem SameL_l0 (xs : List Int) (hl : xs.length < 1000000) : ∀ (d i k : Nat), i + d = xs.length → d < k → pledgeref_SameLongs.l0 k xs xs (i : Int) = some true
  | 0, i, k, h, hk => by
    obtain ⟨k, rfl⟩ : ∃ m, k = m + 1 := ⟨k - 1, by omega⟩
    simp only [pledgeref_SameLongs.l0]
    rw [if_neg (by omega)]
  | d + 1, i, k, h, hk => by
    obtain ⟨k, rfl⟩ : ∃ m, k = m + 1 := ⟨k - 1, by omega⟩
    simp only [pledgeref_SameLongs.l0]
    rw [if_pos (by omega), if_pos (by omega), if_pos (by omega), if_pos trivial, show wrap64 ((i : Int) + 1) = ((i + 1 : Nat) : Int) by rw [w64s _ (by omega) (by omega)]; omega]
    exact SameL_l0 xs hl d (i + 1) k (by omega) (by omega)
theorem SameL_self (xs : List Int) (hl : xs.length < 1000) (k : Nat) (hk : 1000 < k) : pledgeref_SameLongs.f k xs xs = some true := by
  unfold pledgeref_SameLongs.f
  rw [if_pos rfl]
  exact SameL_l0 xs (by omega) xs.length 0 k (by omega) (by omega)
theorem refL_eq (l : List Int) (hn : ∀ n ∈ l, In64' n) (hl : l.length ≤ 30) (k : Nat) (hk : 1000020 < k) : ∀ (d i : Nat), i + d = l.length → refL k l d i (encs (l.take i)) = some (encs l)
  | 0, i, h => by simp only [refL]; rw [List.take_of_length_le (by omega)]
  | d + 1, i, h => by
    have hi : i < l.length := by omega
    have hle : (encs (l.take i)).length ≤ 10 * (l.take i).length := (encs_len _).2
    rw [List.length_take] at hle
    simp only [refL]
    rw [rput_eq _ _ (hn _ (rd_mem l i hi)) (by omega) k hk, Option.bind_some]
    have e : encs (l.take (i + 1)) = encs (l.take i) ++ enc (rd l (i : Int)) := by
      rw [List.take_succ_eq_append_getElem hi, encs_append]
      simp [encs, rd_nat, List.getD_eq_getElem?_getD, List.getElem?_eq_getElem hi]
    rw [← e]
    exact refL_eq l hn hl k hk d (i + 1) (by omega)
theorem or_rng (x y : Int) : 0 ≤ Go.bits .or .u64 x y ∧ Go.bits .or .u64 x y < 2 ^ 64 := by
  obtain ⟨t, e⟩ : ∃ t, Go.bits .or .u64 x y = IntKind.u64.wrap t := ⟨_, rfl⟩
  rw [e, IntKind.wrap_u64]
  omega
theorem and127 (x : Int) (h0 : 0 ≤ x) (h1 : x < 256) : Go.bits .and .u8 x 127 = x % 128 := by
  have h2 : ∀ m : Fin 256, Go.bits .and .u8 ((m.1 : Nat) : Int) 127 = ((m.1 : Nat) : Int) % 128 := by decide +kernel
  obtain ⟨m, rfl⟩ := Int.eq_ofNat_of_zero_le h0
  exact h2 ⟨m, by omega⟩
/-- The document's next bits are the code's. -/
theorem zN_ref (z x : Int) (h0 : 0 ≤ x) (h1 : x < 256) (i : Nat) (hi : i ≤ 9) : Go.bits .or .u64 z (shl .u64 (IntKind.u64.wrap (Go.bits .and .u8 x 127)) (IntKind.u64.wrap (wrap64 (7 * (i : Int))))) = zN z x i := by
  have e : IntKind.u64.wrap (wrap64 (7 * (i : Int))) = wrap64 (7 * (i : Int)) := by rw [w64s _ (by omega) (by omega), IntKind.wrap_u64]; omega
  unfold zN shl
  rw [and127 x h0 h1, andNot_128 x h0 h1, e]
  rfl
theorem zN_rng (z x : Int) (i : Nat) : 0 ≤ zN z x i ∧ zN z x i < 2 ^ 64 := by
  unfold zN
  exact or_rng _ _
theorem neg_xor64 (x : Int) (h0 : 0 ≤ x) (h1 : x < 9223372036854775808) : Go.bits .xor .i64 (-1) x = -x - 1 := by
  obtain ⟨n, rfl⟩ := Int.eq_ofNat_of_zero_le h0
  have en : (BitVec.ofInt 64 (n : Int)).toNat = n := by
    rw [BitVec.toNat_ofInt, show ((2 ^ 64 : Nat) : Int) = 18446744073709551616 from rfl]; omega
  show IntKind.i64.wrap (((BitVec.ofInt 64 (-1)) ^^^ (BitVec.ofInt 64 (n : Int))).toNat : Int) = _
  rw [show BitVec.ofInt 64 (-1) = BitVec.allOnes 64 from rfl, BitVec.allOnes_xor, BitVec.toNat_not, en, IntKind.wrap_i64]
  omega
/-- What the document's reader leaves behind a read of q. -/
def numR (at_ : Int) (q : Int × Int × Option Int) : Int × Int × Int × Bool × Int :=
  match q.2.2 with
  | some c => (0, at_, c, true, at_)
  | none => (q.1, at_ + q.2.1, 0, false, 0)
theorem w9 (x : Int) (h1 : -1000000000 ≤ x) (h2 : x ≤ 1000000000) : wrap64 x = x := by unfold wrap64; omega
theorem Placed_eq (c p : Int) (hc : c ≠ 0) : pledgeref_Placed.f c p = some (c, true, p) := by unfold pledgeref_Placed.f; rw [if_neg hc]
theorem Fail_eq (b : List Int) (s1 s2 : Int) (s3 : Bool) (s4 c p : Int) (hc : c ≠ 0) : pledgeref1_Reader_Fail.f b s1 s2 s3 s4 c p = some (p, c, true, p) := by unfold pledgeref1_Reader_Fail.f; rw [Placed_eq c p hc]; rfl
theorem l0_j1 (b : List Int) (at_ : Int) (h0 : 0 ≤ at_) (hl : at_ ≤ 1000) (i : Nat) (hi : i ≤ 9) (hlt : at_ + (i : Int) < (b.length : Int)) (z x : Int) (hx : rd b (at_ + (i : Int)) = x) (k : Nat) :
    pledgeref1_Reader_Num.l0 (k + 1) (-9223372036854775808) 9223372036854775807 z (at_ + (i : Int)) b at_ 0 false 0 = pledgeref1_Reader_Num.j1 k (-9223372036854775808) 9223372036854775807 z (at_ + (i : Int)) x (i : Int) (decide (((i : Int) = 9 ∧ x > 1) ∨ ((i : Int) > 0 ∧ x = 0))) b at_ 0 false 0 := by
  simp only [pledgeref1_Reader_Num.l0]
  have hw : wrap64 (at_ + (i : Int) - at_) = (i : Int) := by rw [w9 _ (by omega) (by omega)]; omega
  rw [if_neg (by omega), if_pos (by omega), if_pos hlt, hw, hx]
  by_cases h9 : (i : Int) = 9
  · rw [if_pos h9]
    by_cases h1 : x > 1
    · rw [if_pos h1, decide_eq_true (show ((i : Int) = 9 ∧ x > 1) ∨ ((i : Int) > 0 ∧ x = 0) from .inl ⟨h9, h1⟩)]
    · rw [if_neg h1, if_pos (show (i : Int) > 0 by omega)]
      by_cases hx0 : x = 0
      · rw [decide_eq_true (show ((i : Int) = 9 ∧ x > 1) ∨ ((i : Int) > 0 ∧ x = 0) from .inr ⟨by omega, hx0⟩), beq_iff_eq.2 hx0]
      · rw [decide_eq_false (show ¬ (((i : Int) = 9 ∧ x > 1) ∨ ((i : Int) > 0 ∧ x = 0)) by omega), beq_eq_false_iff_ne.2 hx0]
  · rw [if_neg h9]
    by_cases hi0 : (i : Int) > 0
    · rw [if_pos hi0]
      by_cases hx0 : x = 0
      · rw [decide_eq_true (show ((i : Int) = 9 ∧ x > 1) ∨ ((i : Int) > 0 ∧ x = 0) from .inr ⟨by omega, hx0⟩), beq_iff_eq.2 hx0]
      · rw [decide_eq_false (show ¬ (((i : Int) = 9 ∧ x > 1) ∨ ((i : Int) > 0 ∧ x = 0)) by omega), beq_eq_false_iff_ne.2 hx0]
    · rw [if_neg hi0, decide_eq_false (show ¬ (((i : Int) = 9 ∧ x > 1) ∨ ((i : Int) > 0 ∧ x = 0)) by omega)]
/-- What is asked of a read from byte i on. -/
def OkN (b : List Int) (at_ : Int) (k : Nat) (d i : Nat) (z : Int) : Prop :=
  pledgeref1_Reader_Num.l0 k (-9223372036854775808) 9223372036854775807 z (at_ + (i : Int)) b at_ 0 false 0 = some (numR at_ (nmF b at_ (d + 1) i z)) ∧
  (∀ c, (nmF b at_ (d + 1) i z).2.2 = some c → c = 101 ∨ c = 102) ∧ ((nmF b at_ (d + 1) i z).2.2 = none → In64' (nmF b at_ (d + 1) i z).1)
theorem rnum_step (b : List Int) (hb : ∀ x ∈ b, 0 ≤ x ∧ x < 256) (hl : b.length ≤ 1000) (at_ : Int) (h0 : 0 ≤ at_) (h1 : at_ ≤ (b.length : Int)) (d i : Nat) (z : Int) (k : Nat) (hd : d + i = 9) (hk : 2 < k)
    (ih : ∀ z' d', d = d' + 1 → OkN b at_ (k - 2) d' (i + 1) z') : OkN b at_ k d i z := by
  obtain ⟨k, rfl⟩ : ∃ m, k = m + 1 + 1 := ⟨k - 2, by omega⟩
  by_cases hlt : at_ + (i : Int) < (b.length : Int)
  rotate_left
  · have e : nmF b at_ (d + 1) i z = (0, 0, some 101) := by rw [nmF, if_neg hlt]
    unfold OkN
    rw [e]
    refine ⟨?_, fun c hc => .inl (Option.some.inj hc).symm, fun h => by simp at h⟩
    simp only [pledgeref1_Reader_Num.l0]
    rw [if_pos (by omega), Fail_eq _ _ _ _ _ _ _ (by omega)]
    rfl
  obtain ⟨x, hx⟩ : ∃ x, x = rd b (at_ + (i : Int)) := ⟨_, rfl⟩
  have hxb : 0 ≤ x ∧ x < 256 := by
    obtain ⟨n, hn⟩ := Int.eq_ofNat_of_zero_le (show 0 ≤ at_ + (i : Int) by omega)
    rw [hx, hn]; exact hb _ (rd_mem b n (by omega))
  have hj := l0_j1 b at_ h0 (by omega) i (by omega) hlt z x hx.symm (k + 1)
  have bad : (((i : Int) = 9 ∧ x > 1) ∨ ((i : Int) > 0 ∧ x = 0)) → nmF b at_ (d + 1) i z = (0, 0, some 102) → OkN b at_ (k + 1 + 1) d i z := fun hb_ e => by
    unfold OkN
    rw [e, hj, decide_eq_true hb_]
    refine ⟨?_, fun c hc => .inr (Option.some.inj hc).symm, fun h => by simp at h⟩
    simp only [pledgeref1_Reader_Num.j1]
    rw [if_pos trivial, Fail_eq _ _ _ _ _ _ _ (by omega)]
    rfl
  by_cases hA : (i : Int) = 9 ∧ x > 1
  · exact bad (.inl hA) (by rw [nmF, if_pos hlt, ← hx, if_pos hA])
  by_cases hB : x ≥ 128
  · obtain ⟨d', rfl⟩ : ∃ d', d = d' + 1 := ⟨d - 1, by omega⟩
    have hi' := ih (zN z x i) d' rfl
    have e : nmF b at_ (d' + 1 + 1) i z = nmF b at_ (d' + 1) (i + 1) (zN z x i) := by rw [nmF, if_pos hlt, ← hx, if_neg hA, if_pos hB]
    unfold OkN at hi' ⊢
    rw [e]
    refine ⟨?_, hi'.2⟩
    rw [hj, decide_eq_false (show ¬ (((i : Int) = 9 ∧ x > 1) ∨ ((i : Int) > 0 ∧ x = 0)) by omega)]
    simp only [pledgeref1_Reader_Num.j1]
    have e2 : wrap64 (at_ + (i : Int) + 1) = at_ + ((i + 1 : Nat) : Int) := by rw [w9 _ (by omega) (by omega)]; omega
    rw [if_neg (by simp), zN_ref z x hxb.1 hxb.2 i (by omega), if_pos (by rw [w9 _ (by omega) (by omega), IntKind.wrap_u64]; omega), if_neg (by omega), e2]
    have h3 := hi'.1
    rw [show k + 1 + 1 - 2 = k by omega] at h3
    exact h3
  by_cases hC : x = 0 ∧ (i : Int) > 0
  · exact bad (.inr ⟨hC.2, hC.1⟩) (by rw [nmF, if_pos hlt, ← hx, if_neg hA, if_neg hB, if_pos hC])
  have e : nmF b at_ (d + 1) i z = (dcN (zN z x i), (i : Int) + 1, none) := by rw [nmF, if_pos hlt, ← hx, if_neg hA, if_neg hB, if_neg hC]
  obtain ⟨z0, z1⟩ := zN_rng z x i
  have hdc := dcN_eq _ z0 z1
  unfold OkN
  rw [e]
  refine ⟨?_, fun c hc => by simp at hc, fun _ => ?_⟩
  rotate_left
  · show In64' (dcN (zN z x i))
    rw [hdc]; unfold In64'
    split <;> omega
  rw [hj, decide_eq_false (show ¬ (((i : Int) = 9 ∧ x > 1) ∨ ((i : Int) > 0 ∧ x = 0)) by omega)]
  simp only [pledgeref1_Reader_Num.j1]
  have hand : Go.bits .and .u64 (zN z x i) 1 = zN z x i % 2 := bits_mask .u64 64 (by decide) u64_id 1 (by decide) _ z0 z1
  have hhalf : wrap64 (zN z x i / 2) = zN z x i / 2 := by unfold wrap64; omega
  have e2 : wrap64 (at_ + (i : Int) + 1) = at_ + ((i : Int) + 1) := by rw [w9 _ (by omega) (by omega)]; omega
  rw [if_neg (by simp), zN_ref z x hxb.1 hxb.2 i (by omega), if_pos (by rw [w9 _ (by omega) (by omega), IntKind.wrap_u64]; omega), if_pos (by omega), hand, hhalf, e2, hdc]
  clear hdc hhalf hand hj e ih bad e2
  generalize zN z x i = Z at z0 z1 ⊢
  have g0 : 0 ≤ Z / 2 := by omega
  have g1 : Z / 2 < 9223372036854775808 := by omega
  have a1 : ¬ (Z / 2 < -9223372036854775808) := by omega
  have a2 : ¬ (Z / 2 > 9223372036854775807) := by omega
  have a3 : ¬ (-(Z / 2) - 1 < -9223372036854775808) := by omega
  have a4 : ¬ (-(Z / 2) - 1 > 9223372036854775807) := by omega
  have hx := neg_xor64 _ g0 g1
  by_cases hp : Z % 2 = 0
  · have hq : ¬ Z % 2 = 1 := by omega
    rw [if_neg hq, if_pos hp, if_neg a1, if_neg a2]
    simp only [numR]
  · have hq : Z % 2 = 1 := by omega
    rw [if_pos hq, if_neg hp, hx, if_neg a3, if_neg a4]
    simp only [numR]
theorem rnum_l0 (b : List Int) (hb : ∀ x ∈ b, 0 ≤ x ∧ x < 256) (hl : b.length ≤ 1000) (at_ : Int) (h0 : 0 ≤ at_) (h1 : at_ ≤ (b.length : Int)) : ∀ (d i : Nat) (z : Int) (k : Nat), d + i = 9 → 2 * d + 2 < k → OkN b at_ k d i z := by
  intro d
  induction d with
  | zero => exact fun i z k hd hk => rnum_step b hb hl at_ h0 h1 0 i z k hd hk (fun z' d' h => absurd h (by omega))
  | succ d ih =>
    intro i z k hd hk
    refine rnum_step b hb hl at_ h0 h1 (d + 1) i z k hd (by omega) ?_
    intro z' d' h
    have e : d = d' := by omega
    subst e
    exact ih (i + 1) z' (k - 2) (by omega) (by omega)
/-- An error as the document's reader keeps it. -/
def ec : Option (Int × Int) → Int
  | none => 0
  | some p => p.1
def ep : Option (Int × Int) → Bool
  | none => false
  | some _ => true
def eo : Option (Int × Int) → Int
  | none => 0
  | some p => p.2
def okE (e : Option (Int × Int)) : Prop := ∀ p, e = some p → 101 ≤ p.1 ∧ p.1 ≤ 121
theorem num_same (b : List Int) (hb : ∀ x ∈ b, 0 ≤ x ∧ x < 256) (hl : b.length ≤ 1000) (p : Int) (h0 : 0 ≤ p) (h1 : p ≤ (b.length : Int)) (e : Option (Int × Int)) (he : okE e) (k : Nat) (hk : 40 < k) :
    pledgeref1_Reader_Num.f k b p (ec e) (ep e) (eo e) (-9223372036854775808) 9223372036854775807 = some ((numS b p e (-9223372036854775808) 9223372036854775807).1, (numS b p e (-9223372036854775808) 9223372036854775807).2.1, ec (numS b p e (-9223372036854775808) 9223372036854775807).2.2, ep (numS b p e (-9223372036854775808) 9223372036854775807).2.2, eo (numS b p e (-9223372036854775808) 9223372036854775807).2.2) ∧ okE (numS b p e (-9223372036854775808) 9223372036854775807).2.2 := by
  cases e with
  | some q =>
    obtain ⟨q1, q2⟩ := he q rfl
    refine ⟨?_, he⟩
    unfold pledgeref1_Reader_Num.f pledgeref1_Reader_Ok.f
    rw [Option.bind_some]
    have : (ec (some q) == 0) = false := beq_eq_false_iff_ne.2 (show q.1 ≠ 0 by omega)
    simp only [this]
    rw [if_neg (by simp)]
    rfl
  | none =>
    obtain ⟨r1, r2, r3⟩ := rnum_l0 b hb hl p h0 h1 9 0 0 k (by omega) (by omega)
    have hf : pledgeref1_Reader_Num.f k b p (ec none) (ep none) (eo none) (-9223372036854775808) 9223372036854775807 = some (numR p (nm b p)) := by
      unfold pledgeref1_Reader_Num.f pledgeref1_Reader_Ok.f
      rw [Option.bind_some]
      have : (ec none == 0) = true := rfl
      simp only [this]
      rw [if_pos trivial]
      rw [show p + ((0 : Nat) : Int) = p by omega] at r1
      exact r1
    rw [hf]
    have r2' : ∀ c, (nm b p).2.2 = some c → c = 101 ∨ c = 102 := r2
    have r3' : (nm b p).2.2 = none → In64' (nm b p).1 := r3
    clear r1 r2 r3 hf
    unfold numS numR
    cases hq : (nm b p).2.2 with
    | some c =>
      refine ⟨rfl, fun p_ hp => ?_⟩
      have := r2' c hq
      cases hp
      show 101 ≤ c ∧ c ≤ 121
      omega
    | none =>
      have h3 := r3' hq
      unfold In64' at h3
      simp only []
      rw [if_neg (by omega)]
      exact ⟨rfl, fun p_ hp => by simp at hp⟩
theorem run_same (b : List Int) (hb : ∀ x ∈ b, 0 ≤ x ∧ x < 256) (hl : b.length ≤ 1000) (k : Nat) (hk : 40 < k) : ∀ (d : Nat) (p : Int) (e : Option (Int × Int)) (acc : List Int), 0 ≤ p → p ≤ (b.length : Int) → okE e →
    refRun k b d p (ec e) (ep e) (eo e) acc = some ((rdN b d p e acc).1, (rdN b d p e acc).2.1, ec (rdN b d p e acc).2.2, ep (rdN b d p e acc).2.2, eo (rdN b d p e acc).2.2) ∧ okE (rdN b d p e acc).2.2 ∧ (rdN b d p e acc).1.length = acc.length + d
  | 0, p, e, acc, _, _, he => ⟨rfl, he, rfl⟩
  | d + 1, p, e, acc, h0, h1, he => by
    obtain ⟨n1, n2⟩ := num_same b hb hl p h0 h1 e he k hk
    have hbd := numS_bd (lo := -9223372036854775808) (hi := 9223372036854775807) (e := e) h0 h1 (fun q _ _ h => nmF_end b q 10 0 0 h)
    obtain ⟨a1, a2, a3⟩ := run_same b hb hl k hk d _ _ (acc ++ [(numS b p e (-9223372036854775808) 9223372036854775807).1]) hbd.1 hbd.2 n2
    simp only [refRun, rdN]
    rw [n1, Option.bind_some]
    refine ⟨a1, a2, ?_⟩
    rw [a3, List.length_append]
    simp; omega
theorem run_pos (b : List Int) : ∀ d : Nat, 0 ≤ (rdN b d 0 none []).2.1 ∧ (rdN b d 0 none []).2.1 ≤ (b.length : Int) := by
  have g : ∀ (d : Nat) (p : Int) (e : Option (Int × Int)) (acc : List Int), 0 ≤ p → p ≤ (b.length : Int) → 0 ≤ (rdN b d p e acc).2.1 ∧ (rdN b d p e acc).2.1 ≤ (b.length : Int) := fun d => by
    induction d with
    | zero => exact fun p e acc h0 h1 => ⟨h0, h1⟩
    | succ d ih =>
      intro p e acc h0 h1
      have hbd := numS_bd (lo := -9223372036854775808) (hi := 9223372036854775807) (e := e) h0 h1 (fun q _ _ h => nmF_end b q 10 0 0 h)
      exact ih _ _ _ hbd.1 hbd.2
  exact fun d => g d 0 none [] (by omega) (by omega)
theorem fin_same (b : List Int) (hb : ∀ x ∈ b, 0 ≤ x ∧ x < 256) (hl : b.length ≤ 100) (n : Int) (hn : ¬ (n < 0 ∨ n > 64)) (k : Nat) (hk : 1000 < k) : ∃ R, refRun k b n.toNat 0 0 false 0 [] = some R ∧ finF k b n R := by
  obtain ⟨a1, a2, a3⟩ := run_same b hb (by omega) k (by omega) n.toNat 0 none [] (by omega) (by omega) (fun _ h => by simp at h)
  have hp := run_pos b n.toNat
  refine ⟨_, a1, ?_⟩
  have hu : unpS b n = match (rdN b n.toNat 0 none []).2.2 with
    | some p => ([], some (p.1, some p.2))
    | none => if (b.length : Int) - (rdN b n.toNat 0 none []).2.1 > 0 then ([], some (102, some (rdN b n.toNat 0 none []).2.1)) else ((rdN b n.toNat 0 none []).1, none) := by
    unfold unpS; rw [if_neg hn]
    generalize rdN b n.toNat 0 none [] = Z
    obtain ⟨_, _, _ | _⟩ := Z <;> rfl
  have hs : ∀ c p, pledgeref_SameFault.f c true p c true p = some true := fun c p => by unfold pledgeref_SameFault.f; simp
  have hnil := SameL_self [] (by simp) k hk
  generalize rdN b n.toNat 0 none [] = Z at hu a2 a3 hp ⊢
  obtain ⟨Z1, Z2, Z3⟩ := Z
  simp only [] at hu a2 a3 hp ⊢
  unfold finF
  simp only []
  cases Z3 with
  | some p =>
    have hc := a2 p rfl
    have hc0 : ec (some p) ≠ 0 := show p.1 ≠ 0 by omega
    rw [if_pos hc0]
    exact ⟨hu, rfl, hc, hs _ _, hnil⟩
  | none =>
    rw [if_neg (show ¬ (ec none ≠ 0) by simp [ec])]
    have hw : wrap64 ((b.length : Int) - Z2) = (b.length : Int) - Z2 := w9 _ (by omega) (by omega)
    rw [hw]
    simp only [] at hu
    by_cases hg : (b.length : Int) - Z2 > 0
    · rw [if_pos hg] at hu ⊢
      exact ⟨hu, hs _ _, hnil⟩
    · rw [if_neg hg] at hu ⊢
      exact ⟨hu, rfl, rfl, SameL_self _ (by rw [a3]; simp; omega) k hk⟩
theorem Pack_eq (l : List Int) (hl : l.length ≤ 30) (hn : ∀ n ∈ l, In64' n) (k : Nat) (hk : 2000 < k) : rec_Pack.f k l = some (if 64 < (encs l).length then ([], some 105) else (encs l, none)) := by
  unfold rec_Pack.f
  rw [Put_eq [] l (by omega) hn (by simp) k (by omega), Option.bind_some, List.nil_append]
  by_cases h : 64 < (encs l).length
  · rw [if_pos h, if_pos (by omega)]
  · rw [if_neg h, if_neg (by omega)]
end Go.Proofs.YtelabafoknmkcaaDoor.PrRecSays
namespace Go.Proofs.YtelabafoknmkcaaDoor.Pr
open Go.RowKit Go.Proofs.YtelabafoknmkcaaDoor.ERecSays Go.Proofs.YtelabafoknmkcaaDoor.PrRecSays
theorem RecSays : pledgelaw9_RecSays.Pure := by
  intro a b c key bs n l _ _ _ _ _ _ hb _ _ hr
  obtain ⟨k, hk⟩ : ∃ k : Nat, 1000100 < k := ⟨1000101, by omega⟩
  refine ⟨k, ?_⟩
  unfold pledgelaw9_RecSays.f
  rw [PrRecSaysR.first9_eq k (by omega), Option.bind_some, if_pos rfl]
  by_cases h1 : 60 < key.length
  · rw [if_pos h1]
  by_cases h2 : 100 < bs.length
  · rw [if_neg h1, if_pos h2]
  by_cases h3 : 30 < l.length
  · rw [if_neg h1, if_neg h2, if_pos h3]
  have hn : ∀ n ∈ l, In64' n := fun n hm => hr.2 n hm
  have hbb : ∀ x ∈ bs, 0 ≤ x ∧ x < 256 := fun x hx => ⟨(hb.2 x hx).1, Int.lt_of_le_of_lt (hb.2 x hx).2 (by decide)⟩
  have hln := encs_len l
  obtain ⟨q1, q2, q3, q4, r1, r2, r3⟩ := PrRecSaysR.Read_same key k (by omega)
  have hw := refL_eq l hn (by omega) k (by omega) l.length 0 (by omega)
  rw [List.take_zero] at hw
  rw [if_neg h1, if_neg h2, if_neg h3, PrRecSaysR.Key_eq a b c k (by omega), Option.bind_some, PrRecSaysR.RKey_eq a b c k (by omega), Option.bind_some, r1, Option.bind_some, r2, Option.bind_some, show refL k l l.length 0 [] = some (encs l) from hw, Option.bind_some, Pack_eq l (by omega) hn k (by omega), Option.bind_some]
  refine if_pos ?_
  unfold RSP
  have hsame : ∀ xs : List Int, xs.length < 1000000 → pledgeref_SameBytes.f k xs xs = some true ∨ ¬ xs.length < k := fun xs hx => by
    by_cases h : xs.length < k
    · left; rw [PrRecSaysR.Same_eq xs xs hx k h]; simp
    · exact .inr h
  have hS : ∀ xs : List Int, xs.length < 1000000 → pledgeref_SameBytes.f k xs xs = some true := fun xs hx => by rw [PrRecSaysR.Same_eq xs xs hx k (by omega)]; simp
  refine ⟨?_, ?_, ?_, rfl, rfl, rfl, ?_, by omega, fun h => fin_same bs hbb (by omega) n h k (by omega)⟩
  · by_cases ho : PrRecSaysR.okK a b c
    · rw [if_pos ho, if_pos ho]; exact (Is_none 0).trans (by simp)
    · rw [if_neg ho, if_neg ho]; exact (Is_some 103 103 (by omega) (by omega)).trans (by simp)
  · by_cases ho : PrRecSaysR.okK a b c
    · rw [if_pos ho, if_pos ho]; exact hS _ (by simp [PrRecSaysR.keyL, PrRecSaysR.dg])
    · rw [if_neg ho, if_neg ho]; exact hS _ (by simp)
  · rcases r3 with rfl | rfl | rfl
    · exact (Is_none 0).trans (by simp)
    · exact (Is_some 101 101 (by omega) (by omega)).trans (by simp)
    · exact (Is_some 102 102 (by omega) (by omega)).trans (by simp)
  · by_cases h64 : 64 < (encs l).length
    · rw [if_pos h64, if_pos h64]; exact ⟨(Is_some 105 105 (by omega) (by omega)).trans (by simp), rfl⟩
    · rw [if_neg h64, if_neg h64]; exact ⟨rfl, hS (encs l) (by omega)⟩
end Go.Proofs.YtelabafoknmkcaaDoor.Pr
