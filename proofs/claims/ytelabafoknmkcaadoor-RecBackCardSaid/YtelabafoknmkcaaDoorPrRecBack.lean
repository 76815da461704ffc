/- What was packed is unpacked as it was, by just as many; one more, or one less, is told: what the walk leaves of RecBack, for all numbers. Conditions: none beyond the statement's own. -/
import Derived.Test.YtelabafoknmkcaaDoorERecBackx
import Derived.Test.YtelabafoknmkcaaDoorOpen
namespace Go.Proofs.YtelabafoknmkcaaDoor.PrRecBackR
open Go.RowKit Go.Proofs.YtelabafoknmkcaaDoor.ERecBack Go.Proofs.YtelabafoknmkcaaDoorW.PrintWords Go.Proofs.YtelabafoknmkcaaDoorW.PrintLast Go.Proofs.YtelabafoknmkcaaDoorW.PrintMore Go.Proofs.YtelabafoknmkcaaDoorW.PrintOpen
set_option linter.unusedSimpArgs false
set_option linter.unusedVariables false
theorem w64 (x : Int) (h1 : -9223372036854775808 ≤ x) (h2 : x ≤ 9223372036854775807) : wrap64 x = x := by unfold wrap64; omega
theorem w64s (x : Int) (h1 : -1000000000 ≤ x) (h2 : x ≤ 1000000000) : wrap64 x = x := by unfold wrap64; omega
theorem wu64 (n : Int) : IntKind.u64.wrap n = n % 18446744073709551616 := by simp [IntKind.wrap, IntKind.bits, IntKind.signed]
theorem rd_nat (l : List Int) (i : Nat) : rd l (i : Int) = l.getD i 0 := by unfold rd; rw [Int.toNat_natCast]
theorem rd_mem (l : List Int) (i : Nat) (h : i < l.length) : rd l (i : Int) ∈ l := by
  rw [rd_nat, List.getD_eq_getElem?_getD, List.getElem?_eq_getElem h]; exact List.getElem_mem h
theorem take_snoc_sum (l : List Int) (i : Nat) (h : i < l.length) : (l.take (i + 1)).sum = (l.take i).sum + rd l (i : Int) := by
  rw [List.take_succ_eq_append_getElem h, List.sum_append, rd_nat, List.getD_eq_getElem?_getD, List.getElem?_eq_getElem h]; simp
/-- A number's five bytes, the highest first. -/
def dg (n : Int) : List Int := [n / 4294967296 % 256, n / 16777216 % 256, n / 65536 % 256, n / 256 % 256, n % 256]
def ok40 (n : Int) : Prop := 0 ≤ n ∧ n ≤ 1099511627775
instance (n : Int) : Decidable (ok40 n) := by unfold ok40; infer_instance
theorem shr_i (x : Int) (i : Nat) (hi : i < 64) : shr .i64 x (i : Int) = x / 2 ^ i := by
  unfold shr
  rw [Int.toNat_natCast, Nat.min_eq_left (show i ≤ IntKind.i64.bits by simp [IntKind.bits]; omega)]
theorem put_step (n : Int) (l : List Int) (hl : l.length < 1000000) (i : Nat) (hi : i < 5) (k : Nat) :
    rec_put.l0 (k + 1) l n (i : Int) = rec_put.l0 k (l ++ [n / 2 ^ (8 * i) % 256]) n ((i : Int) - 1) := by
  simp only [rec_put.l0]
  have e : wrap64 (8 * (i : Int)) = ((8 * i : Nat) : Int) := by rw [w64s _ (by omega) (by omega)]; omega
  rw [if_pos (by omega), e, if_pos (by omega), if_pos (by omega), shr_i n (8 * i) (by omega), w64s _ (by omega) (by omega)]
theorem put_eq (l : List Int) (n : Int) (hl : l.length < 900000) (k : Nat) (hk : 6 < k) : rec_put.f k l n = some (l ++ dg n) := by
  unfold rec_put.f
  obtain ⟨k, rfl⟩ : ∃ m, k = m + 1 := ⟨k - 1, by omega⟩
  have h4 := put_step n l (by omega) 4 (by omega) k
  rw [show ((4 : Nat) : Int) = 4 from rfl] at h4
  rw [h4]
  obtain ⟨k, rfl⟩ : ∃ m, k = m + 1 := ⟨k - 1, by omega⟩
  have h3 := put_step n (l ++ [n / 2 ^ (8 * 4) % 256]) (by simp; omega) 3 (by omega) k
  rw [show ((3 : Nat) : Int) = (4 : Int) - 1 from rfl] at h3
  rw [h3]
  obtain ⟨k, rfl⟩ : ∃ m, k = m + 1 := ⟨k - 1, by omega⟩
  have h2 := put_step n (l ++ [n / 2 ^ (8 * 4) % 256] ++ [n / 2 ^ (8 * 3) % 256]) (by simp; omega) 2 (by omega) k
  rw [show ((2 : Nat) : Int) = (4 : Int) - 1 - 1 from rfl] at h2
  rw [h2]
  obtain ⟨k, rfl⟩ : ∃ m, k = m + 1 := ⟨k - 1, by omega⟩
  have h1 := put_step n (l ++ [n / 2 ^ (8 * 4) % 256] ++ [n / 2 ^ (8 * 3) % 256] ++ [n / 2 ^ (8 * 2) % 256]) (by simp; omega) 1 (by omega) k
  rw [show ((1 : Nat) : Int) = (4 : Int) - 1 - 1 - 1 from rfl] at h1
  rw [h1]
  obtain ⟨k, rfl⟩ : ∃ m, k = m + 1 := ⟨k - 1, by omega⟩
  have h0 := put_step n (l ++ [n / 2 ^ (8 * 4) % 256] ++ [n / 2 ^ (8 * 3) % 256] ++ [n / 2 ^ (8 * 2) % 256] ++ [n / 2 ^ (8 * 1) % 256]) (by simp; omega) 0 (by omega) k
  rw [show ((0 : Nat) : Int) = (4 : Int) - 1 - 1 - 1 - 1 from rfl] at h0
  rw [h0]
  obtain ⟨k, rfl⟩ : ∃ m, k = m + 1 := ⟨k - 1, by omega⟩
  simp only [rec_put.l0]
  rw [if_neg (by omega)]
  simp [dg]
/-- A key's bytes. -/
def keyL (kd a b : Int) : List Int := kd :: (dg a ++ dg b)
def okK (kd a b : Int) : Prop := (0 ≤ kd ∧ kd ≤ 255) ∧ ok40 a ∧ ok40 b
instance (kd a b : Int) : Decidable (okK kd a b) := by unfold okK; infer_instance
theorem Key_eq (kd a b : Int) (k : Nat) (hk : 10 < k) : rec_Key.f k kd a b = some (if okK kd a b then (keyL kd a b, none) else ([], some 103)) := by
  unfold rec_Key.f
  obtain ⟨k', hk'⟩ : ∃ m, k = m + 1 := ⟨k - 1, by omega⟩
  have hj : ∀ x y z, rec_Key.j0 k true x y z = some ([], some 103) := by intro x y z; rw [hk']; simp [rec_Key.j0]
  by_cases h1 : kd < 0
  · rw [if_pos h1, hj, if_neg (by unfold okK ok40; omega)]
  rw [if_neg h1]
  by_cases h2 : kd > 255
  · rw [if_pos h2, hj, if_neg (by unfold okK ok40; omega)]
  rw [if_neg h2]
  by_cases h3 : a < 0
  · rw [if_pos h3, hj, if_neg (by unfold okK ok40; omega)]
  rw [if_neg h3]
  by_cases h4 : a > 1099511627775
  · rw [if_pos h4, hj, if_neg (by unfold okK ok40; omega)]
  rw [if_neg h4]
  by_cases h5 : b < 0
  · rw [if_pos h5, hj, if_neg (by unfold okK ok40; omega)]
  rw [if_neg h5]
  by_cases h6 : b > 1099511627775
  · rw [decide_eq_true h6, hj, if_neg (by unfold okK ok40; omega)]
  rw [decide_eq_false h6, if_pos (by unfold okK ok40; omega), hk']
  simp only [rec_Key.j0, Bool.false_eq_true, if_false]
  rw [put_eq _ _ (by simp) k' (by omega)]
  simp only [Option.bind_some]
  rw [put_eq _ _ (by simp [dg]) k' (by omega)]
  simp only [Option.bind_some, keyL]
  rw [show kd % 256 = kd by omega]
  rfl
theorem Same_l0 (xs ys : List Int) (h : xs.length = ys.length) (hl : xs.length < 1000000) : ∀ (d i k : Nat), xs.length - i = d → i ≤ xs.length → d < k →
    pledgeref_SameBytes.l0 k xs ys (i : Int) = some (decide (xs.drop i = ys.drop i)) := by
  intro d
  induction d with
  | zero =>
    intro i k hd hi hk
    obtain ⟨k, rfl⟩ : ∃ m, k = m + 1 := ⟨k - 1, by omega⟩
    simp only [pledgeref_SameBytes.l0]
    rw [if_neg (by omega), List.drop_eq_nil_of_le (by omega), List.drop_eq_nil_of_le (by omega)]
    simp
  | succ d ih =>
    intro i k hd hi hk
    obtain ⟨k, rfl⟩ : ∃ m, k = m + 1 := ⟨k - 1, by omega⟩
    simp only [pledgeref_SameBytes.l0]
    have n1 : i < xs.length := by omega
    have n2 : i < ys.length := by omega
    have := ih (i + 1) k (by omega) (by omega) (by omega)
    have e : wrap64 ((i : Int) + 1) = ((i + 1 : Nat) : Int) := by rw [w64s _ (by omega) (by omega)]; omega
    rw [if_pos (by omega), if_pos (by omega), if_pos (by omega), e, this]
    have ex : rd xs (i : Int) = xs[i] := by rw [rd_nat, List.getD_eq_getElem?_getD, List.getElem?_eq_getElem n1]; rfl
    have ey : rd ys (i : Int) = ys[i] := by rw [rd_nat, List.getD_eq_getElem?_getD, List.getElem?_eq_getElem n2]; rfl
    rw [List.drop_eq_getElem_cons n1, List.drop_eq_getElem_cons n2, ex, ey]
    by_cases hx : xs[i] = ys[i]
    · rw [if_pos hx]; exact congrArg some (decide_eq_decide.2 ⟨fun z => by rw [hx, z], fun z => (List.cons.inj z).2⟩)
    · rw [if_neg hx, decide_eq_false (fun z => hx (List.cons.inj z).1)]
theorem Same_eq (xs ys : List Int) (hl : xs.length < 1000000) (k : Nat) (hk : xs.length < k) : pledgeref_SameBytes.f k xs ys = some (decide (xs = ys)) := by
  unfold pledgeref_SameBytes.f
  by_cases h : xs.length = ys.length
  · rw [if_pos (by omega)]
    have := Same_l0 xs ys h hl xs.length 0 k (by omega) (by omega) hk
    simpa using this
  · rw [if_neg (by omega), decide_eq_false (fun e => h (by rw [e]))]
theorem first9_eq (k : Nat) (hk : 20 < k) : pledgelaw9_first.f k = some true := by
  unfold pledgelaw9_first.f
  rw [Key_eq 1 2 3 k (by omega), if_pos (by decide)]
  simp only [Option.bind_some, Option.isNone_none, if_true]
  rw [Same_eq _ _ (by simp [keyL, dg]) k (by simp [keyL, dg]; omega)]
  rfl
end Go.Proofs.YtelabafoknmkcaaDoor.PrRecBackR
namespace Go.Proofs.YtelabafoknmkcaaDoor.PrRecBack
open Go.RowKit Go.Proofs.YtelabafoknmkcaaDoor.ERecBack Go.Proofs.YtelabafoknmkcaaDoorW.PrintWords Go.Proofs.YtelabafoknmkcaaDoorW.PrintLast Go.Proofs.YtelabafoknmkcaaDoorW.PrintMore Go.Proofs.YtelabafoknmkcaaDoorW.PrintOpen
set_option linter.unusedSimpArgs false
set_option linter.unusedVariables false
theorem w64 (x : Int) (h1 : -9223372036854775808 ≤ x) (h2 : x ≤ 9223372036854775807) : wrap64 x = x := by unfold wrap64; omega
theorem w64s (x : Int) (h1 : -1000000000 ≤ x) (h2 : x ≤ 1000000000) : wrap64 x = x := by unfold wrap64; omega
theorem wu64 (n : Int) : IntKind.u64.wrap n = n % 18446744073709551616 := by simp [IntKind.wrap, IntKind.bits, IntKind.signed]
theorem rd_nat (l : List Int) (i : Nat) : rd l (i : Int) = l.getD i 0 := by unfold rd; rw [Int.toNat_natCast]
theorem rd_mem (l : List Int) (i : Nat) (h : i < l.length) : rd l (i : Int) ∈ l := by
  rw [rd_nat, List.getD_eq_getElem?_getD, List.getElem?_eq_getElem h]; exact List.getElem_mem h
theorem take_snoc_sum (l : List Int) (i : Nat) (h : i < l.length) : (l.take (i + 1)).sum = (l.take i).sum + rd l (i : Int) := by
  rw [List.take_succ_eq_append_getElem h, List.sum_append, rd_nat, List.getD_eq_getElem?_getD, List.getElem?_eq_getElem h]; simp
def In64' (n : Int) : Prop := -9223372036854775808 ≤ n ∧ n ≤ 9223372036854775807
theorem u64_id (n : Int) (h0 : 0 ≤ n) (h1 : n < 2 ^ 64) : IntKind.u64.wrap n = n := by
  rw [wu64]; exact Int.emod_eq_of_lt h0 h1
theorem u8_id (n : Int) (h0 : 0 ≤ n) (h1 : n < 2 ^ 8) : IntKind.u8.wrap n = n := wraps_u8 n h0 h1
theorem or_comm_u64 (x y : Int) : Go.bits .or .u64 x y = Go.bits .or .u64 y x := by
  show IntKind.u64.wrap _ = IntKind.u64.wrap _
  rw [BitVec.or_comm]
theorem or_u8_128 (z : Int) (h0 : 0 ≤ z) : Go.bits .or .u8 (z % 256) 128 = z % 128 + 128 := by
  have h1 : ∀ m : Fin 256, Go.bits .or .u8 ((m.1 : Nat) : Int) 128 = ((m.1 : Nat) : Int) % 128 + 128 := by decide +kernel
  obtain ⟨m, hm⟩ := Int.eq_ofNat_of_zero_le (show 0 ≤ z % 256 by omega)
  have h2 : Go.bits .or .u8 (m : Int) 128 = (m : Int) % 128 + 128 := h1 ⟨m, by omega⟩
  rw [hm, h2]
  omega
theorem andNot_128 (x : Int) (h0 : 0 ≤ x) (h1 : x < 256) : Go.bits .andNot .u8 x 128 = x % 128 := by
  have h : ∀ m : Fin 256, Go.bits .andNot .u8 ((m.1 : Nat) : Int) 128 = ((m.1 : Nat) : Int) % 128 := by decide +kernel
  obtain ⟨m, rfl⟩ := Int.eq_ofNat_of_zero_le h0
  exact h ⟨m, by omega⟩
theorem zN_eq (z x : Int) (i : Nat) (hi : i ≤ 9) (hx0 : 0 ≤ x) (hx1 : x < 256) (hz0 : 0 ≤ z) (hz1 : z < 2 ^ (7 * i)) (hm : x % 128 * 2 ^ (7 * i) < 2 ^ 64) : zN z x i = z + x % 128 * 2 ^ (7 * i) := by
  have hp : (0 : Int) < 2 ^ (7 * i) := Int.pow_pos (by omega)
  have hle : (2 : Int) ^ (7 * i) ≤ 2 ^ 64 := by
    have : 2 ^ (7 * i) ≤ 2 ^ 64 := Nat.pow_le_pow_right (by omega) (by omega)
    exact_mod_cast this
  have hm0 : 0 ≤ x % 128 * 2 ^ (7 * i) := Int.mul_nonneg (by omega) (by omega)
  unfold zN
  rw [andNot_128 x hx0 hx1, u64_id (x % 128) (by omega) (by omega), w64s _ (by omega) (by omega), show (7 * (i : Int)).toNat = 7 * i by omega, Nat.min_eq_left (by omega), u64_id _ hm0 hm, or_comm_u64,
    bits_join .u64 64 (by decide) u64_id (7 * i) _ _ hm0 (Int.mul_emod_left _ _) hm hz0 hz1 (by omega), Int.add_comm]
theorem xor_zero64 (x : Int) (h0 : 0 ≤ x) (h1 : x < 9223372036854775808) : Go.bits .xor .i64 x 0 = x := by
  obtain ⟨n, rfl⟩ := Int.eq_ofNat_of_zero_le h0
  have en : (BitVec.ofInt 64 (n : Int)).toNat = n := by
    rw [BitVec.toNat_ofInt, show ((2 ^ 64 : Nat) : Int) = 18446744073709551616 from rfl]; omega
  show IntKind.i64.wrap (((BitVec.ofInt 64 (n : Int)) ^^^ (BitVec.ofInt 64 0)).toNat : Int) = _
  rw [show BitVec.ofInt 64 0 = 0#64 from rfl, BitVec.xor_zero, en, IntKind.wrap_i64]
  omega
theorem xor_neg64 (x : Int) (h0 : 0 ≤ x) (h1 : x < 9223372036854775808) : Go.bits .xor .i64 x (-1) = -x - 1 := by
  obtain ⟨n, rfl⟩ := Int.eq_ofNat_of_zero_le h0
  have en : (BitVec.ofInt 64 (n : Int)).toNat = n := by
    rw [BitVec.toNat_ofInt, show ((2 ^ 64 : Nat) : Int) = 18446744073709551616 from rfl]; omega
  show IntKind.i64.wrap (((BitVec.ofInt 64 (n : Int)) ^^^ (BitVec.ofInt 64 (-1))).toNat : Int) = _
  rw [show BitVec.ofInt 64 (-1) = BitVec.allOnes 64 from rfl, BitVec.xor_allOnes, BitVec.toNat_not, en, IntKind.wrap_i64]
  omega
theorem dcN_eq (z : Int) (h0 : 0 ≤ z) (h1 : z < 2 ^ 64) : dcN z = if z % 2 = 0 then z / 2 else -(z / 2) - 1 := by
  have h2 : Go.bits .and .u64 z 1 = z % 2 := bits_mask .u64 64 (by decide) u64_id 1 (by decide) z h0 h1
  have h1' : z < 18446744073709551616 := h1
  unfold dcN
  rw [h2, w64s (z % 2) (by omega) (by omega), w64s (-(z % 2)) (by omega) (by omega), w64 (z / 2) (by omega) (by omega)]
  by_cases h : z % 2 = 0
  · rw [if_pos h, h]; exact xor_zero64 _ (by omega) (by omega)
  · rw [if_neg h, show z % 2 = 1 by omega]; exact xor_neg64 _ (by omega) (by omega)
/-- A number without a sign. -/
def zz (n : Int) : Int := if 0 ≤ n then 2 * n else -2 * n - 1
theorem zz_bd (n : Int) (h : In64' n) : 0 ≤ zz n ∧ zz n < 2 ^ 64 := by
  obtain ⟨h0, h1⟩ := h; unfold zz; split <;> omega
theorem dc_zz (n : Int) (h : In64' n) : dcN (zz n) = n := by
  rw [dcN_eq _ (zz_bd n h).1 (zz_bd n h).2]
  unfold zz; split <;> split <;> omega
theorem xor_zero_u64 (x : Int) (h0 : 0 ≤ x) (h1 : x < 18446744073709551616) : Go.bits .xor .u64 x 0 = x := by
  obtain ⟨n, rfl⟩ := Int.eq_ofNat_of_zero_le h0
  have en : (BitVec.ofInt 64 (n : Int)).toNat = n := by
    rw [BitVec.toNat_ofInt, show ((2 ^ 64 : Nat) : Int) = 18446744073709551616 from rfl]; omega
  show IntKind.u64.wrap (((BitVec.ofInt 64 (n : Int)) ^^^ (BitVec.ofInt 64 0)).toNat : Int) = _
  rw [show BitVec.ofInt 64 0 = 0#64 from rfl, BitVec.xor_zero, en, wu64]
  omega
theorem xor_max_u64 (x : Int) (h0 : 0 ≤ x) (h1 : x < 18446744073709551616) : Go.bits .xor .u64 x 18446744073709551615 = 18446744073709551615 - x := by
  obtain ⟨n, rfl⟩ := Int.eq_ofNat_of_zero_le h0
  have en : (BitVec.ofInt 64 (n : Int)).toNat = n := by
    rw [BitVec.toNat_ofInt, show ((2 ^ 64 : Nat) : Int) = 18446744073709551616 from rfl]; omega
  show IntKind.u64.wrap (((BitVec.ofInt 64 (n : Int)) ^^^ (BitVec.ofInt 64 18446744073709551615)).toNat : Int) = _
  rw [show BitVec.ofInt 64 18446744073709551615 = BitVec.allOnes 64 from rfl, BitVec.xor_allOnes, BitVec.toNat_not, en, wu64]
  omega
theorem zz_bits (n : Int) (h : In64' n) : Go.bits .xor .u64 (IntKind.u64.wrap ((IntKind.u64.wrap n) * 2)) (IntKind.u64.wrap (n / 9223372036854775808)) = zz n := by
  obtain ⟨h0, h1⟩ := h
  rw [wu64, wu64, wu64]
  unfold zz
  by_cases hn : 0 ≤ n
  · rw [if_pos hn, show n / 9223372036854775808 % 18446744073709551616 = 0 by omega, xor_zero_u64 _ (by omega) (by omega)]; omega
  · rw [if_neg hn, show n / 9223372036854775808 % 18446744073709551616 = 18446744073709551615 by omega, xor_max_u64 _ (by omega) (by omega)]; omega
/-- A number's bytes: at most d and one. -/
def vbF : Nat → Int → List Int
  | 0, z => [z]
  | d + 1, z => if z < 128 then [z] else (z % 128 + 128) :: vbF d (z / 128)
def enc (n : Int) : List Int := vbF 9 (zz n)
theorem vbF_len : ∀ (d : Nat) (z : Int), 1 ≤ (vbF d z).length ∧ (vbF d z).length ≤ d + 1
  | 0, z => by simp [vbF]
  | d + 1, z => by
    have := vbF_len d (z / 128)
    unfold vbF; split
    · simp
    · simp only [List.length_cons]; omega
theorem enc_len (n : Int) : 1 ≤ (enc n).length ∧ (enc n).length ≤ 10 := vbF_len 9 _
theorem put_l0 : ∀ (d : Nat) (z : Int) (b : List Int) (k : Nat), 0 ≤ z → z < 128 ^ (d + 1) → b.length + d < 1000000 → d < k → wire_put.l0 k b z = some (b ++ vbF d z)
  | 0, z, b, k, h0, h1, hb, hk => by
    obtain ⟨k, rfl⟩ : ∃ m, k = m + 1 := ⟨k - 1, by omega⟩
    have h1' : z < 128 := by simpa using h1
    simp only [wire_put.l0, vbF]
    rw [if_neg (by omega), if_pos (by omega), show z % 256 = z by omega]
  | d + 1, z, b, k, h0, h1, hb, hk => by
    obtain ⟨k, rfl⟩ : ∃ m, k = m + 1 := ⟨k - 1, by omega⟩
    simp only [wire_put.l0, vbF]
    by_cases h : z < 128
    · rw [if_neg (by omega), if_pos (by omega), if_pos h, show z % 256 = z by omega]
    · have h2 : z / 128 < 128 ^ (d + 1) := by
        have e : (128 : Int) ^ (d + 1 + 1) = 128 ^ (d + 1) * 128 := Int.pow_succ ..
        rw [e] at h1
        generalize (128 : Int) ^ (d + 1) = P at h1 ⊢
        omega
      rw [if_pos (by omega), if_pos (by omega), if_neg h, or_u8_128 z h0, put_l0 d (z / 128) _ k (by omega) h2 (by simp; omega) (by omega), List.append_assoc]
      rfl
theorem put_eq (b : List Int) (n : Int) (h : In64' n) (hb : b.length < 900000) (k : Nat) (hk : 20 < k) : wire_put.f k b n = some (b ++ enc n) := by
  unfold wire_put.f enc
  rw [zz_bits n h]
  have := zz_bd n h
  exact put_l0 9 _ b k this.1 (Int.lt_trans this.2 (by decide)) (by omega) (by omega)
/-- All numbers' bytes. -/
def encs : List Int → List Int
  | [] => []
  | n :: r => enc n ++ encs r
theorem encs_append : ∀ (a b : List Int), encs (a ++ b) = encs a ++ encs b
  | [], b => rfl
  | n :: r, b => by simp only [List.cons_append, encs, encs_append r b, List.append_assoc]
theorem encs_len : ∀ l : List Int, l.length ≤ (encs l).length ∧ (encs l).length ≤ 10 * l.length
  | [] => by simp [encs]
  | n :: r => by
    have h1 := encs_len r
    have h2 := enc_len n
    simp only [encs, List.length_append, List.length_cons]; omega
theorem Put_l0 (l : List Int) (hl : l.length ≤ 1000) (hn : ∀ n ∈ l, In64' n) (b : List Int) (hb : b.length ≤ 1000) : ∀ (d i k : Nat), i + d = l.length → d + 40 < k → wire_Put.l0 k (b ++ encs (l.take i)) l (l.length : Int) (i : Int) = some (b ++ encs l)
  | 0, i, k, h, hk => by
    obtain ⟨k, rfl⟩ : ∃ m, k = m + 1 := ⟨k - 1, by omega⟩
    simp only [wire_Put.l0]
    rw [if_neg (by omega), List.take_of_length_le (by omega)]
  | d + 1, i, k, h, hk => by
    obtain ⟨k, rfl⟩ : ∃ m, k = m + 1 := ⟨k - 1, by omega⟩
    have hi : i < l.length := by omega
    have e : wrap64 ((i : Int) + 1) = ((i + 1 : Nat) : Int) := by rw [w64s _ (by omega) (by omega)]; omega
    have et : l.take (i + 1) = l.take i ++ [rd l (i : Int)] := by
      rw [List.take_succ_eq_append_getElem hi, rd_nat, List.getD_eq_getElem?_getD, List.getElem?_eq_getElem hi]; rfl
    have ee : b ++ encs (l.take i) ++ enc (rd l (i : Int)) = b ++ encs (l.take (i + 1)) := by
      rw [et, encs_append]; simp [encs]
    have hlen := (encs_len (l.take i)).2
    rw [List.length_take] at hlen
    simp only [wire_Put.l0]
    rw [if_pos (by omega), if_pos (by omega), if_pos (by omega), put_eq _ _ (hn _ (rd_mem l i hi)) (by rw [List.length_append]; omega) k (by omega), Option.bind_some, e, ee]
    exact Put_l0 l hl hn b hb d (i + 1) k (by omega) (by omega)
theorem Put_eq (b l : List Int) (hl : l.length ≤ 1000) (hn : ∀ n ∈ l, In64' n) (hb : b.length ≤ 1000) (k : Nat) (hk : l.length + 50 < k) : wire_Put.f k b l = some (b ++ encs l) := by
  unfold wire_Put.f slices_Clone_byte_byte.f
  rw [if_pos (by omega), Option.bind_some]
  have := Put_l0 l hl hn b hb l.length 0 k (by omega) (by omega)
  simpa [encs] using this
theorem rd_mid (p : List Int) (x : Int) (q : List Int) (at_ : Int) (h : at_ = (p.length : Int)) : rd (p ++ x :: q) at_ = x := by
  subst h
  rw [rd_nat, List.getD_eq_getElem?_getD, List.getElem?_append_right (Nat.le_refl _), Nat.sub_self]; rfl
theorem nmF_vb (T at_ : Int) (hT : T < 2 ^ 64) (hat : 0 ≤ at_) (q : List Int) : ∀ (d i : Nat) (zr acc : Int) (p b : List Int), d + i = 9 → 0 ≤ zr → 0 ≤ acc → acc < 2 ^ (7 * i) → acc + zr * 2 ^ (7 * i) = T → (0 < i → 0 < zr) → b = p ++ (vbF d zr ++ q) → at_ + (i : Int) = (p.length : Int) →
    nmF b at_ (d + 1) i acc = (dcN T, (i : Int) + ((vbF d zr).length : Int), none) := by
  intro d
  induction d with
  | zero =>
    intro i zr acc p b hd h0 ha0 ha1 hTe hz hb hp
    obtain rfl : i = 9 := by omega
    have hzr : zr ≤ 1 := by
      have e : (2 : Int) ^ (7 * 9) = 9223372036854775808 := by decide
      rw [e] at hTe
      have hT' : T < 18446744073709551616 := hT
      omega
    have hr : rd b (at_ + ((9 : Nat) : Int)) = zr := by rw [hb]; exact rd_mid p zr q _ hp
    have hlen : at_ + ((9 : Nat) : Int) < (b.length : Int) := by rw [hb, hp]; simp [vbF]; omega
    have hzN : zN acc zr 9 = T := by
      rw [zN_eq acc zr 9 (by omega) h0 (by omega) ha0 ha1 (by rw [show zr % 128 = zr by omega]; have := hTe; have hT' : T < 18446744073709551616 := hT; show zr * 9223372036854775808 < 18446744073709551616; omega), show zr % 128 = zr by omega, hTe]
    simp only [nmF]
    rw [if_pos hlen, hr, if_neg (by omega), if_neg (by omega), if_neg (by have := hz (by omega); omega), hzN]
    rfl
  | succ d ih =>
    intro i zr acc p b hd h0 ha0 ha1 hTe hz hb hp
    have hP : (0 : Int) < 2 ^ (7 * i) := Int.pow_pos (by omega)
    have hi8 : i ≤ 8 := by omega
    by_cases h : zr < 128
    · have ev : vbF (d + 1) zr = [zr] := by unfold vbF; rw [if_pos h]
      rw [ev] at hb ⊢
      have hr : rd b (at_ + (i : Int)) = zr := by rw [hb]; exact rd_mid p zr q _ hp
      have hlen : at_ + (i : Int) < (b.length : Int) := by rw [hb, hp]; simp; omega
      have hzN : zN acc zr i = T := by
        rw [zN_eq acc zr i (by omega) h0 (by omega) ha0 ha1 (by rw [show zr % 128 = zr by omega]; omega), show zr % 128 = zr by omega, hTe]
      rw [nmF, if_pos hlen, hr, if_neg (by omega), if_neg (by omega), if_neg (by intro hc; have := hz (by omega); omega), hzN]
      rfl
    · have ev : vbF (d + 1) zr = (zr % 128 + 128) :: vbF d (zr / 128) := by rw [vbF, if_neg h]
      rw [ev] at hb ⊢
      have hr : rd b (at_ + (i : Int)) = zr % 128 + 128 := by rw [hb]; exact rd_mid p _ _ _ hp
      have hlen : at_ + (i : Int) < (b.length : Int) := by rw [hb, hp]; simp; omega
      have e7 : (2 : Int) ^ (7 * (i + 1)) = 2 ^ (7 * i) * 128 := by rw [Nat.mul_add, Int.pow_add]; rfl
      have em : (zr % 128 + 128) % 128 = zr % 128 := by omega
      have hmP : zr % 128 * 2 ^ (7 * i) ≤ 127 * 2 ^ (7 * i) := Int.mul_le_mul_of_nonneg_right (by omega) (by omega)
      have hmP0 : 0 ≤ zr % 128 * 2 ^ (7 * i) := Int.mul_nonneg (by omega) (by omega)
      have hsum : zr % 128 * 2 ^ (7 * i) + zr / 128 * (2 ^ (7 * i) * 128) = zr * 2 ^ (7 * i) := by
        have hz2 : zr = zr % 128 + 128 * (zr / 128) := by omega
        generalize (2 : Int) ^ (7 * i) = P
        generalize zr % 128 = m at hz2 ⊢
        generalize zr / 128 = u at hz2 ⊢
        subst hz2
        grind
      have hq0 : 0 ≤ zr / 128 * (2 ^ (7 * i) * 128) := Int.mul_nonneg (by omega) (by omega)
      have hzN : zN acc (zr % 128 + 128) i = acc + zr % 128 * 2 ^ (7 * i) := by
        rw [zN_eq acc _ i (by omega) (by omega) (by omega) ha0 ha1 (by rw [em]; omega), em]
      have ih' := ih (i + 1) (zr / 128) (acc + zr % 128 * 2 ^ (7 * i)) (p ++ [zr % 128 + 128]) b (by omega) (by omega) (by omega) (by rw [e7]; omega) (by rw [e7]; omega) (by omega) (by rw [hb]; simp) (by rw [List.length_append]; simp; omega)
      rw [nmF, if_pos hlen, hr, if_neg (by omega), if_pos (by omega), hzN, ih']
      simp only [List.length_cons]
      congr 2
      omega
theorem nm_enc (n : Int) (h : In64' n) (p q : List Int) : nm (p ++ (enc n ++ q)) (p.length : Int) = (n, ((enc n).length : Int), none) := by
  have hz := zz_bd n h
  show nmF (p ++ (vbF 9 (zz n) ++ q)) (p.length : Int) (9 + 1) 0 0 = (n, ((vbF 9 (zz n)).length : Int), none)
  rw [nmF_vb (zz n) (p.length : Int) hz.2 (by omega) q 9 0 (zz n) 0 p _ (by omega) hz.1 (by omega) (by decide) (by simp) (by omega) rfl (by omega), dc_zz n h]
  simp
theorem numS_enc (n low high : Int) (h : In64' n) (p q : List Int) (at_ : Int) (ha : at_ = (p.length : Int)) : numS (p ++ (enc n ++ q)) at_ none low high = if n < low ∨ n > high then (0, at_, some (103, at_)) else (n, at_ + ((enc n).length : Int), none) := by
  subst ha
  unfold numS
  rw [nm_enc n h p q]
/-- All bytes, around one number's. -/
theorem encs_at (l : List Int) (i : Nat) (hi : i < l.length) : encs l = encs (l.take i) ++ (enc (rd l (i : Int)) ++ encs (l.drop (i + 1))) ∧ encs (l.take (i + 1)) = encs (l.take i) ++ enc (rd l (i : Int)) := by
  have et : l.take (i + 1) = l.take i ++ [rd l (i : Int)] := by
    rw [List.take_succ_eq_append_getElem hi, rd_nat, List.getD_eq_getElem?_getD, List.getElem?_eq_getElem hi]; rfl
  have ev : encs (l.take (i + 1)) = encs (l.take i) ++ enc (rd l (i : Int)) := by rw [et, encs_append]; simp [encs]
  refine ⟨?_, ev⟩
  have : l = l.take (i + 1) ++ l.drop (i + 1) := (List.take_append_drop _ _).symm
  rw [← List.append_assoc, ← ev, ← encs_append, ← this]
theorem numS_at (l : List Int) (hn : ∀ n ∈ l, In64' n) (i : Nat) (hi : i < l.length) (lo hi' : Int) : numS (encs l) ((encs (l.take i)).length : Int) none lo hi' = if rd l (i : Int) < lo ∨ rd l (i : Int) > hi' then (0, ((encs (l.take i)).length : Int), some (103, ((encs (l.take i)).length : Int))) else (rd l (i : Int), ((encs (l.take (i + 1))).length : Int), none) := by
  obtain ⟨e1, e2⟩ := encs_at l i hi
  rw [e2]
  rw [e1, numS_enc _ lo hi' (hn _ (rd_mem l i hi)) _ _ _ rfl]
  split
  · rfl
  · rw [List.length_append]; simp
theorem encs_take_le (l : List Int) (i : Nat) : (encs (l.take i)).length ≤ (encs l).length := by
  have e : l = l.take i ++ l.drop i := (List.take_append_drop _ _).symm
  have : (encs l).length = (encs (l.take i)).length + (encs (l.drop i)).length := by rw [← List.length_append, ← encs_append, ← e]
  omega
theorem SameL_l0 (xs ys : List Int) (h : xs.length = ys.length) (hl : xs.length < 1000000) : ∀ (d i k : Nat), xs.length - i = d → i ≤ xs.length → d < k →
    pledgeref_SameLongs.l0 k xs ys (i : Int) = some (decide (xs.drop i = ys.drop i)) := by
  intro d
  induction d with
  | zero =>
    intro i k hd hi hk
    obtain ⟨k, rfl⟩ : ∃ m, k = m + 1 := ⟨k - 1, by omega⟩
    simp only [pledgeref_SameLongs.l0]
    rw [if_neg (by omega), List.drop_eq_nil_of_le (by omega), List.drop_eq_nil_of_le (by omega)]
    simp
  | succ d ih =>
    intro i k hd hi hk
    obtain ⟨k, rfl⟩ : ∃ m, k = m + 1 := ⟨k - 1, by omega⟩
    simp only [pledgeref_SameLongs.l0]
    have n1 : i < xs.length := by omega
    have n2 : i < ys.length := by omega
    have := ih (i + 1) k (by omega) (by omega) (by omega)
    have e : wrap64 ((i : Int) + 1) = ((i + 1 : Nat) : Int) := by rw [w64s _ (by omega) (by omega)]; omega
    rw [if_pos (by omega), if_pos (by omega), if_pos (by omega), e, this]
    have ex : rd xs (i : Int) = xs[i] := by rw [rd_nat, List.getD_eq_getElem?_getD, List.getElem?_eq_getElem n1]; rfl
    have ey : rd ys (i : Int) = ys[i] := by rw [rd_nat, List.getD_eq_getElem?_getD, List.getElem?_eq_getElem n2]; rfl
    rw [List.drop_eq_getElem_cons n1, List.drop_eq_getElem_cons n2, ex, ey]
    by_cases hx : xs[i] = ys[i]
    · rw [if_pos hx]; exact congrArg some (decide_eq_decide.2 ⟨fun z => by rw [hx, z], fun z => (List.cons.inj z).2⟩)
    · rw [if_neg hx, decide_eq_false (fun z => hx (List.cons.inj z).1)]
theorem SameL_eq (xs ys : List Int) (hl : xs.length < 1000000) (k : Nat) (hk : xs.length < k) : pledgeref_SameLongs.f k xs ys = some (decide (xs = ys)) := by
  unfold pledgeref_SameLongs.f
  by_cases h : xs.length = ys.length
  · rw [if_pos (by omega)]
    have := SameL_l0 xs ys h hl xs.length 0 k (by omega) (by omega) hk
    simpa using this
  · rw [if_neg (by omega), decide_eq_false (fun e => h (by rw [e]))]
theorem rdN_add (b : List Int) : ∀ (d1 d2 : Nat) (p : Int) (e : Option (Int × Int)) (acc : List Int), rdN b (d1 + d2) p e acc = rdN b d2 (rdN b d1 p e acc).2.1 (rdN b d1 p e acc).2.2 (rdN b d1 p e acc).1
  | 0, d2, p, e, acc => by rw [Nat.zero_add]; rfl
  | d1 + 1, d2, p, e, acc => by
    rw [show d1 + 1 + d2 = (d1 + d2) + 1 by omega]
    simp only [rdN]
    exact rdN_add b d1 d2 _ _ _
theorem rdN_eq (l : List Int) (hn : ∀ n ∈ l, In64' n) : ∀ (d i : Nat) (acc : List Int), i + d ≤ l.length → rdN (encs l) d ((encs (l.take i)).length : Int) none acc = (acc ++ (l.drop i).take d, ((encs (l.take (i + d))).length : Int), none)
  | 0, i, acc, h => by simp [rdN]
  | d + 1, i, acc, h => by
    have hi : i < l.length := by omega
    have hm := hn _ (rd_mem l i hi)
    unfold In64' at hm
    have hs := numS_at l hn i hi (-9223372036854775808) 9223372036854775807
    rw [if_neg (by omega)] at hs
    have er : rd l (i : Int) = l[i] := by rw [rd_nat, List.getD_eq_getElem?_getD, List.getElem?_eq_getElem hi]; rfl
    simp only [rdN]
    rw [hs]
    simp only []
    rw [rdN_eq l hn d (i + 1) _ (by omega), List.drop_eq_getElem_cons hi, List.take_succ_cons, ← er, List.append_assoc, show i + 1 + d = i + (d + 1) by omega]
    rfl
theorem all_eq (l : List Int) (hn : ∀ n ∈ l, In64' n) (d : Nat) (h : d ≤ l.length) : rdN (encs l) d 0 none [] = (l.take d, ((encs (l.take d)).length : Int), none) := by
  have := rdN_eq l hn d 0 [] (by omega)
  simpa [encs] using this
theorem Pack_eq (l : List Int) (hl : l.length ≤ 20) (hn : ∀ n ∈ l, In64' n) (k : Nat) (hk : 2000 < k) : rec_Pack.f k l = some (if 64 < (encs l).length then ([], some 105) else (encs l, none)) := by
  unfold rec_Pack.f
  rw [Put_eq [] l (by omega) hn (by simp) k (by omega), Option.bind_some, List.nil_append]
  by_cases h : 64 < (encs l).length
  · rw [if_pos h, if_pos (by omega)]
  · rw [if_neg h, if_neg (by omega)]
end Go.Proofs.YtelabafoknmkcaaDoor.PrRecBack
namespace Go.Proofs.YtelabafoknmkcaaDoor.Pr
open Go.RowKit Go.Proofs.YtelabafoknmkcaaDoor.ERecBack Go.Proofs.YtelabafoknmkcaaDoor.PrRecBack
theorem RecBack : pledgelaw9_RecBack.Pure := by
  intro l _ hr
  obtain ⟨k, hk⟩ : ∃ k : Nat, 2000 < k := ⟨2001, by omega⟩
  refine ⟨k, ?_⟩
  unfold pledgelaw9_RecBack.f
  rw [PrRecBackR.first9_eq k (by omega), Option.bind_some, if_pos rfl]
  by_cases h50 : 20 < l.length
  · rw [if_pos h50]
  have hn : ∀ n ∈ l, In64' n := fun n hm => hr.2 n hm
  have hln := encs_len l
  rw [if_neg h50, Pack_eq l (by omega) hn k hk, Option.bind_some]
  by_cases h64 : 64 < (encs l).length
  · rw [if_pos h64]; rfl
  rw [if_neg h64]
  simp only []
  have u1 : unpS (encs l) (l.length : Int) = (l, none) := by
    have e := all_eq l hn l.length (Nat.le_refl _)
    rw [List.take_length] at e
    unfold unpS
    rw [if_neg (by omega), Int.toNat_natCast, e]
    simp only []
    rw [if_neg (by omega)]
  have u2 : unpS (encs l) ((l.length : Int) + 1) = ([], some (101, some ((encs l).length : Int))) := by
    have e := all_eq l hn l.length (Nat.le_refl _)
    rw [List.take_length] at e
    have e2 : rdN (encs l) (l.length + 1) 0 none [] = (l ++ [0], ((encs l).length : Int), some (101, ((encs l).length : Int))) := by
      rw [rdN_add, e]
      simp only [rdN]
      have hnm : nm (encs l) ((encs l).length : Int) = (0, 0, some 101) := by
        show nmF (encs l) _ (9 + 1) 0 0 = _
        rw [nmF, if_neg (by omega)]
      have hq : numS (encs l) ((encs l).length : Int) none (-9223372036854775808) 9223372036854775807 = (0, ((encs l).length : Int), some (101, ((encs l).length : Int))) := by
        unfold numS; rw [hnm]
      rw [hq]
    unfold unpS
    rw [if_neg (by omega), show ((l.length : Int) + 1).toNat = l.length + 1 by omega, e2]
  rw [u1, u2, if_pos ⟨by omega, rfl, by rw [SameL_eq l l (by omega) k (by omega)]; simp, rfl⟩]
  by_cases h0 : l.length = 0
  · rw [if_pos h0]
  have hn2 : ∀ n ∈ l.take (l.length - 1), In64' n := fun n hm => hn n (List.mem_of_mem_take hm)
  have hle := encs_take_le l (l.length - 1)
  have hlt : (encs (l.take (l.length - 1))).length < (encs l).length := by
    obtain ⟨e1, e2⟩ := encs_at l (l.length - 1) (by omega)
    have h3 := enc_len (Go.Proofs.YtelabafoknmkcaaDoorW.PrintWords.rd l ((l.length - 1 : Nat) : Int))
    have h4 : (encs l).length = (encs (l.take (l.length - 1 + 1))).length := by rw [List.take_of_length_le (by omega)]
    rw [h4, e2, List.length_append]; omega
  have u3 : unpS (encs l) ((l.length : Int) - 1) = ([], some (102, some ((encs (l.take (l.length - 1))).length : Int))) := by
    have e := all_eq l hn (l.length - 1) (by omega)
    unfold unpS
    rw [if_neg (by omega), show ((l.length : Int) - 1).toNat = l.length - 1 by omega, e]
    simp only []
    rw [if_pos (by omega)]
  have hpk : Go.Proofs.YtelabafoknmkcaaDoor.ERecBack.rec_Pack.f k (l.take (l.length - 1)) = some (encs (l.take (l.length - 1)), none) := by
    rw [Pack_eq (l.take (l.length - 1)) (by rw [List.length_take]; omega) hn2 k hk, if_neg (by omega)]
  rw [if_neg h0, hpk, Option.bind_some, u3]
  simp
end Go.Proofs.YtelabafoknmkcaaDoor.Pr
