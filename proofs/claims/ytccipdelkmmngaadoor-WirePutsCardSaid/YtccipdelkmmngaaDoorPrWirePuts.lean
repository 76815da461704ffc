/- Any numbers, behind any bytes, at once or one by one, are what the chapter says; read they are the same; what was handed in stays: what the walk leaves of WirePuts, for all bytes and numbers. Conditions: none beyond the statement's own. -/
import Derived.Test.YtccipdelkmmngaaDoorEWirePutsx
import Derived.Test.YtccipdelkmmngaaDoorOpen
namespace Go.Proofs.YtccipdelkmmngaaDoor.PrWirePuts
open Go.RowKit Go.Proofs.YtccipdelkmmngaaDoor.EWirePuts Go.Proofs.YtccipdelkmmngaaDoorW.PrintWords Go.Proofs.YtccipdelkmmngaaDoorW.PrintLast Go.Proofs.YtccipdelkmmngaaDoorW.PrintMore Go.Proofs.YtccipdelkmmngaaDoorW.PrintOpen
set_option linter.unusedSimpArgs false
set_option linter.unusedVariables false
theorem w64 (x : Int) (h1 : -9223372036854775808 ≤ x) (h2 : x ≤ 9223372036854775807) : wrap64 x = x := by unfold wrap64; omega
theorem w64s (x : Int) (h1 : -1000000000 ≤ x) (h2 : x ≤ 1000000000) : wrap64 x = x := by unfold wrap64; omega
theorem wu64 (n : Int) : IntKind.u64.wrap n = n % 18446744073709551616 := by simp [IntKind.wrap, IntKind.bits, IntKind.signed]
theorem rd_nat (l : List Int) (i : Nat) : rd l (i : Int) = l.getD i 0 := by unfold rd; rw [Int.toNat_natCast]
theorem rd_mem (l : List Int) (i : Nat) (h : i < l.length) : rd l (i : Int) ∈ l := by
  rw [rd_nat, List.getD_eq_getElem?_getD, List.getElem?_eq_getElem h]; exact List.getElem_mem h
theorem take_snoc_sum (l : List Int) (i : Nat) (h : i < l.length) : (l.take (i + 1)).sum = (l.take i).sum + rd l (i : Int) := by
  rw [List.take_succ_eq_append_getElem h, List.sum_append, rd_nat, List.getD_eq_getElem?_getD, List.getElem?_eq_getElem h]; simp
theorem Bytes_l0 (xs : List Int) (hl : xs.length < 1000000) : ∀ (d i k : Nat), xs.length - i = d → i ≤ xs.length → d < k → pledgeref_Bytes.l0 k xs (xs.take i) (i : Int) = some xs := by
  intro d
  induction d with
  | zero =>
    intro i k hd hi hk
    obtain ⟨k, rfl⟩ : ∃ m, k = m + 1 := ⟨k - 1, by omega⟩
    simp only [pledgeref_Bytes.l0]
    rw [if_neg (by omega), List.take_of_length_le (by omega)]
  | succ d ih =>
    intro i k hd hi hk
    obtain ⟨k, rfl⟩ : ∃ m, k = m + 1 := ⟨k - 1, by omega⟩
    simp only [pledgeref_Bytes.l0]
    have n1 : i < xs.length := by omega
    have e : wrap64 ((i : Int) + 1) = ((i + 1 : Nat) : Int) := by rw [w64s _ (by omega) (by omega)]; omega
    have e3 : xs.take i ++ [rd xs (i : Int)] = xs.take (i + 1) := by
      rw [List.take_succ_eq_append_getElem n1, rd_nat, List.getD_eq_getElem?_getD, List.getElem?_eq_getElem n1]; rfl
    rw [if_pos (by omega), if_pos (by omega), if_pos (by rw [List.length_take]; omega), e, e3]
    exact ih (i + 1) k (by omega) (by omega) (by omega)
theorem Bytes_eq (xs : List Int) (hl : xs.length < 1000000) (k : Nat) (hk : xs.length < k) : pledgeref_Bytes.f k xs = some xs := by
  unfold pledgeref_Bytes.f
  rw [if_pos (by omega), if_pos (by omega)]
  have := Bytes_l0 xs hl xs.length 0 k (by omega) (by omega) hk
  simpa using this
theorem Same_l0 (xs ys : List Int) (h : xs.length = ys.length) (hl : xs.length < 1000000) : ∀ (d i k : Nat), xs.length - i = d → i ≤ xs.length → d < k →
    pledgeref_SameBytes.l0 k xs ys (i : Int) = some (decide (xs.drop i = ys.drop i)) := by
  intro d
  induction d with
  | zero =>
    intro i k hd hi hk
    obtain ⟨k, rfl⟩ : ∃ m, k = m + 1 := ⟨k - 1, by omega⟩
    simp only [pledgeref_SameBytes.l0]
    rw [if_neg (by omega), List.drop_eq_nil_of_le (by omega), List.drop_eq_nil_of_le (by omega)]
    simp
  | succ d ih =>
    intro i k hd hi hk
    obtain ⟨k, rfl⟩ : ∃ m, k = m + 1 := ⟨k - 1, by omega⟩
    simp only [pledgeref_SameBytes.l0]
    have n1 : i < xs.length := by omega
    have n2 : i < ys.length := by omega
    have := ih (i + 1) k (by omega) (by omega) (by omega)
    have e : wrap64 ((i : Int) + 1) = ((i + 1 : Nat) : Int) := by rw [w64s _ (by omega) (by omega)]; omega
    rw [if_pos (by omega), if_pos (by omega), if_pos (by omega), e, this]
    have ex : rd xs (i : Int) = xs[i] := by rw [rd_nat, List.getD_eq_getElem?_getD, List.getElem?_eq_getElem n1]; rfl
    have ey : rd ys (i : Int) = ys[i] := by rw [rd_nat, List.getD_eq_getElem?_getD, List.getElem?_eq_getElem n2]; rfl
    rw [List.drop_eq_getElem_cons n1, List.drop_eq_getElem_cons n2, ex, ey]
    by_cases hx : xs[i] = ys[i]
    · rw [if_pos hx]; exact congrArg some (decide_eq_decide.2 ⟨fun z => by rw [hx, z], fun z => (List.cons.inj z).2⟩)
    · rw [if_neg hx, decide_eq_false (fun z => hx (List.cons.inj z).1)]
theorem Same_eq (xs ys : List Int) (hl : xs.length < 1000000) (k : Nat) (hk : xs.length < k) : pledgeref_SameBytes.f k xs ys = some (decide (xs = ys)) := by
  unfold pledgeref_SameBytes.f
  by_cases h : xs.length = ys.length
  · rw [if_pos (by omega)]
    have := Same_l0 xs ys h hl xs.length 0 k (by omega) (by omega) hk
    simpa using this
  · rw [if_neg (by omega), decide_eq_false (fun e => h (by rw [e]))]
theorem xor_max (x : Int) (h0 : 0 ≤ x) (h1 : x < 18446744073709551616) : Go.bits .xor .u64 IntKind.u64.max x = 18446744073709551615 - x := by
  obtain ⟨n, rfl⟩ := Int.eq_ofNat_of_zero_le h0
  have en : (BitVec.ofInt 64 (n : Int)).toNat = n := by
    rw [BitVec.toNat_ofInt, show ((2 ^ 64 : Nat) : Int) = 18446744073709551616 from rfl]
    omega
  show IntKind.u64.wrap (((BitVec.ofInt 64 IntKind.u64.max) ^^^ (BitVec.ofInt 64 (n : Int))).toNat : Int) = _
  have em : BitVec.ofInt 64 IntKind.u64.max = BitVec.allOnes 64 := rfl
  rw [em, BitVec.allOnes_xor, BitVec.toNat_not, en, wu64]
  omega
def In64' (n : Int) : Prop := -9223372036854775808 ≤ n ∧ n ≤ 9223372036854775807
theorem u64_id (n : Int) (h0 : 0 ≤ n) (h1 : n < 2 ^ 64) : IntKind.u64.wrap n = n := by
  rw [wu64]; exact Int.emod_eq_of_lt h0 h1
theorem u8_id (n : Int) (h0 : 0 ≤ n) (h1 : n < 2 ^ 8) : IntKind.u8.wrap n = n := wraps_u8 n h0 h1
theorem or_comm_u64 (x y : Int) : Go.bits .or .u64 x y = Go.bits .or .u64 y x := by
  show IntKind.u64.wrap _ = IntKind.u64.wrap _
  rw [BitVec.or_comm]
theorem or_u8_128 (z : Int) (h0 : 0 ≤ z) : Go.bits .or .u8 (z % 256) 128 = z % 128 + 128 := by
  have h1 : ∀ m : Fin 256, Go.bits .or .u8 ((m.1 : Nat) : Int) 128 = ((m.1 : Nat) : Int) % 128 + 128 := by decide +kernel
  obtain ⟨m, hm⟩ := Int.eq_ofNat_of_zero_le (show 0 ≤ z % 256 by omega)
  have h2 : Go.bits .or .u8 (m : Int) 128 = (m : Int) % 128 + 128 := h1 ⟨m, by omega⟩
  rw [hm, h2]
  omega
theorem andNot_128 (x : Int) (h0 : 0 ≤ x) (h1 : x < 256) : Go.bits .andNot .u8 x 128 = x % 128 := by
  have h : ∀ m : Fin 256, Go.bits .andNot .u8 ((m.1 : Nat) : Int) 128 = ((m.1 : Nat) : Int) % 128 := by decide +kernel
  obtain ⟨m, rfl⟩ := Int.eq_ofNat_of_zero_le h0
  exact h ⟨m, by omega⟩
theorem zN_eq (z x : Int) (i : Nat) (hi : i ≤ 9) (hx0 : 0 ≤ x) (hx1 : x < 256) (hz0 : 0 ≤ z) (hz1 : z < 2 ^ (7 * i)) (hm : x % 128 * 2 ^ (7 * i) < 2 ^ 64) : zN z x i = z + x % 128 * 2 ^ (7 * i) := by
  have hp : (0 : Int) < 2 ^ (7 * i) := Int.pow_pos (by omega)
  have hle : (2 : Int) ^ (7 * i) ≤ 2 ^ 64 := by
    have : 2 ^ (7 * i) ≤ 2 ^ 64 := Nat.pow_le_pow_right (by omega) (by omega)
    exact_mod_cast this
  have hm0 : 0 ≤ x % 128 * 2 ^ (7 * i) := Int.mul_nonneg (by omega) (by omega)
  unfold zN
  rw [andNot_128 x hx0 hx1, u64_id (x % 128) (by omega) (by omega), w64s _ (by omega) (by omega), show (7 * (i : Int)).toNat = 7 * i by omega, Nat.min_eq_left (by omega), u64_id _ hm0 hm, or_comm_u64,
    bits_join .u64 64 (by decide) u64_id (7 * i) _ _ hm0 (Int.mul_emod_left _ _) hm hz0 hz1 (by omega), Int.add_comm]
theorem xor_zero64 (x : Int) (h0 : 0 ≤ x) (h1 : x < 9223372036854775808) : Go.bits .xor .i64 x 0 = x := by
  obtain ⟨n, rfl⟩ := Int.eq_ofNat_of_zero_le h0
  have en : (BitVec.ofInt 64 (n : Int)).toNat = n := by
    rw [BitVec.toNat_ofInt, show ((2 ^ 64 : Nat) : Int) = 18446744073709551616 from rfl]; omega
  show IntKind.i64.wrap (((BitVec.ofInt 64 (n : Int)) ^^^ (BitVec.ofInt 64 0)).toNat : Int) = _
  rw [show BitVec.ofInt 64 0 = 0#64 from rfl, BitVec.xor_zero, en, IntKind.wrap_i64]
  omega
theorem xor_neg64 (x : Int) (h0 : 0 ≤ x) (h1 : x < 9223372036854775808) : Go.bits .xor .i64 x (-1) = -x - 1 := by
  obtain ⟨n, rfl⟩ := Int.eq_ofNat_of_zero_le h0
  have en : (BitVec.ofInt 64 (n : Int)).toNat = n := by
    rw [BitVec.toNat_ofInt, show ((2 ^ 64 : Nat) : Int) = 18446744073709551616 from rfl]; omega
  show IntKind.i64.wrap (((BitVec.ofInt 64 (n : Int)) ^^^ (BitVec.ofInt 64 (-1))).toNat : Int) = _
  rw [show BitVec.ofInt 64 (-1) = BitVec.allOnes 64 from rfl, BitVec.xor_allOnes, BitVec.toNat_not, en, IntKind.wrap_i64]
  omega
theorem dcN_eq (z : Int) (h0 : 0 ≤ z) (h1 : z < 2 ^ 64) : dcN z = if z % 2 = 0 then z / 2 else -(z / 2) - 1 := by
  have h2 : Go.bits .and .u64 z 1 = z % 2 := bits_mask .u64 64 (by decide) u64_id 1 (by decide) z h0 h1
  have h1' : z < 18446744073709551616 := h1
  unfold dcN
  rw [h2, w64s (z % 2) (by omega) (by omega), w64s (-(z % 2)) (by omega) (by omega), w64 (z / 2) (by omega) (by omega)]
  by_cases h : z % 2 = 0
  · rw [if_pos h, h]; exact xor_zero64 _ (by omega) (by omega)
  · rw [if_neg h, show z % 2 = 1 by omega]; exact xor_neg64 _ (by omega) (by omega)
/-- A number without a sign. -/
def zz (n : Int) : Int := if 0 ≤ n then 2 * n else -2 * n - 1
theorem zz_bd (n : Int) (h : In64' n) : 0 ≤ zz n ∧ zz n < 2 ^ 64 := by
  obtain ⟨h0, h1⟩ := h; unfold zz; split <;> omega
theorem dc_zz (n : Int) (h : In64' n) : dcN (zz n) = n := by
  rw [dcN_eq _ (zz_bd n h).1 (zz_bd n h).2]
  unfold zz; split <;> split <;> omega
theorem xor_zero_u64 (x : Int) (h0 : 0 ≤ x) (h1 : x < 18446744073709551616) : Go.bits .xor .u64 x 0 = x := by
  obtain ⟨n, rfl⟩ := Int.eq_ofNat_of_zero_le h0
  have en : (BitVec.ofInt 64 (n : Int)).toNat = n := by
    rw [BitVec.toNat_ofInt, show ((2 ^ 64 : Nat) : Int) = 18446744073709551616 from rfl]; omega
  show IntKind.u64.wrap (((BitVec.ofInt 64 (n : Int)) ^^^ (BitVec.ofInt 64 0)).toNat : Int) = _
  rw [show BitVec.ofInt 64 0 = 0#64 from rfl, BitVec.xor_zero, en, wu64]
  omega
theorem xor_max_u64 (x : Int) (h0 : 0 ≤ x) (h1 : x < 18446744073709551616) : Go.bits .xor .u64 x 18446744073709551615 = 18446744073709551615 - x := by
  obtain ⟨n, rfl⟩ := Int.eq_ofNat_of_zero_le h0
  have en : (BitVec.ofInt 64 (n : Int)).toNat = n := by
    rw [BitVec.toNat_ofInt, show ((2 ^ 64 : Nat) : Int) = 18446744073709551616 from rfl]; omega
  show IntKind.u64.wrap (((BitVec.ofInt 64 (n : Int)) ^^^ (BitVec.ofInt 64 18446744073709551615)).toNat : Int) = _
  rw [show BitVec.ofInt 64 18446744073709551615 = BitVec.allOnes 64 from rfl, BitVec.xor_allOnes, BitVec.toNat_not, en, wu64]
  omega
theorem zz_bits (n : Int) (h : In64' n) : Go.bits .xor .u64 (IntKind.u64.wrap ((IntKind.u64.wrap n) * 2)) (IntKind.u64.wrap (n / 9223372036854775808)) = zz n := by
  obtain ⟨h0, h1⟩ := h
  rw [wu64, wu64, wu64]
  unfold zz
  by_cases hn : 0 ≤ n
  · rw [if_pos hn, show n / 9223372036854775808 % 18446744073709551616 = 0 by omega, xor_zero_u64 _ (by omega) (by omega)]; omega
  · rw [if_neg hn, show n / 9223372036854775808 % 18446744073709551616 = 18446744073709551615 by omega, xor_max_u64 _ (by omega) (by omega)]; omega
/-- A number's bytes: at most d and one. -/
def vbF : Nat → Int → List Int
  | 0, z => [z]
  | d + 1, z => if z < 128 then [z] else (z % 128 + 128) :: vbF d (z / 128)
def enc (n : Int) : List Int := vbF 9 (zz n)
theorem vbF_len : ∀ (d : Nat) (z : Int), 1 ≤ (vbF d z).length ∧ (vbF d z).length ≤ d + 1
  | 0, z => by simp [vbF]
  | d + 1, z => by
    have := vbF_len d (z / 128)
    unfold vbF; split
    · simp
    · simp only [List.length_cons]; omega
theorem enc_len (n : Int) : 1 ≤ (enc n).length ∧ (enc n).length ≤ 10 := vbF_len 9 _
theorem put_l0 : ∀ (d : Nat) (z : Int) (b : List Int) (k : Nat), 0 ≤ z → z < 128 ^ (d + 1) → b.length + d < 1000000 → d < k → wire_put.l0 k b z = some (b ++ vbF d z)
  | 0, z, b, k, h0, h1, hb, hk => by
    obtain ⟨k, rfl⟩ : ∃ m, k = m + 1 := ⟨k - 1, by omega⟩
    have h1' : z < 128 := by simpa using h1
    simp only [wire_put.l0, vbF]
    rw [if_neg (by omega), if_pos (by omega), show z % 256 = z by omega]
  | d + 1, z, b, k, h0, h1, hb, hk => by
    obtain ⟨k, rfl⟩ : ∃ m, k = m + 1 := ⟨k - 1, by omega⟩
    simp only [wire_put.l0, vbF]
    by_cases h : z < 128
    · rw [if_neg (by omega), if_pos (by omega), if_pos h, show z % 256 = z by omega]
    · have h2 : z / 128 < 128 ^ (d + 1) := by
        have e : (128 : Int) ^ (d + 1 + 1) = 128 ^ (d + 1) * 128 := Int.pow_succ ..
        rw [e] at h1
        generalize (128 : Int) ^ (d + 1) = P at h1 ⊢
        omega
      rw [if_pos (by omega), if_pos (by omega), if_neg h, or_u8_128 z h0, put_l0 d (z / 128) _ k (by omega) h2 (by simp; omega) (by omega), List.append_assoc]
      rfl
theorem put_eq (b : List Int) (n : Int) (h : In64' n) (hb : b.length < 900000) (k : Nat) (hk : 20 < k) : wire_put.f k b n = some (b ++ enc n) := by
  unfold wire_put.f enc
  rw [zz_bits n h]
  have := zz_bd n h
  exact put_l0 9 _ b k this.1 (Int.lt_trans this.2 (by decide)) (by omega) (by omega)
/-- All numbers' bytes. -/
def encs : List Int → List Int
  | [] => []
  | n :: r => enc n ++ encs r
theorem encs_append : ∀ (a b : List Int), encs (a ++ b) = encs a ++ encs b
  | [], b => rfl
  | n :: r, b => by simp only [List.cons_append, encs, encs_append r b, List.append_assoc]
theorem encs_len : ∀ l : List Int, l.length ≤ (encs l).length ∧ (encs l).length ≤ 10 * l.length
  | [] => by simp [encs]
  | n :: r => by
    have h1 := encs_len r
    have h2 := enc_len n
    simp only [encs, List.length_append, List.length_cons]; omega
theorem Put_l0 (l : List Int) (hl : l.length ≤ 1000) (hn : ∀ n ∈ l, In64' n) (b : List Int) (hb : b.length ≤ 1000) : ∀ (d i k : Nat), i + d = l.length → d + 40 < k → wire_Put.l0 k (b ++ encs (l.take i)) l (l.length : Int) (i : Int) = some (b ++ encs l)
  | 0, i, k, h, hk => by
    obtain ⟨k, rfl⟩ : ∃ m, k = m + 1 := ⟨k - 1, by omega⟩
    simp only [wire_Put.l0]
    rw [if_neg (by omega), List.take_of_length_le (by omega)]
  | d + 1, i, k, h, hk => by
    obtain ⟨k, rfl⟩ : ∃ m, k = m + 1 := ⟨k - 1, by omega⟩
    have hi : i < l.length := by omega
    have e : wrap64 ((i : Int) + 1) = ((i + 1 : Nat) : Int) := by rw [w64s _ (by omega) (by omega)]; omega
    have et : l.take (i + 1) = l.take i ++ [rd l (i : Int)] := by
      rw [List.take_succ_eq_append_getElem hi, rd_nat, List.getD_eq_getElem?_getD, List.getElem?_eq_getElem hi]; rfl
    have ee : b ++ encs (l.take i) ++ enc (rd l (i : Int)) = b ++ encs (l.take (i + 1)) := by
      rw [et, encs_append]; simp [encs]
    have hlen := (encs_len (l.take i)).2
    rw [List.length_take] at hlen
    simp only [wire_Put.l0]
    rw [if_pos (by omega), if_pos (by omega), if_pos (by omega), put_eq _ _ (hn _ (rd_mem l i hi)) (by rw [List.length_append]; omega) k (by omega), Option.bind_some, e, ee]
    exact Put_l0 l hl hn b hb d (i + 1) k (by omega) (by omega)
theorem Put_eq (b l : List Int) (hl : l.length ≤ 1000) (hn : ∀ n ∈ l, In64' n) (hb : b.length ≤ 1000) (k : Nat) (hk : l.length + 50 < k) : wire_Put.f k b l = some (b ++ encs l) := by
  unfold wire_Put.f slices_Clone_byte_byte.f
  rw [if_pos (by omega), Option.bind_some]
  have := Put_l0 l hl hn b hb l.length 0 k (by omega) (by omega)
  simpa [encs] using this
theorem rd_mid (p : List Int) (x : Int) (q : List Int) (at_ : Int) (h : at_ = (p.length : Int)) : rd (p ++ x :: q) at_ = x := by
  subst h
  rw [rd_nat, List.getD_eq_getElem?_getD, List.getElem?_append_right (Nat.le_refl _), Nat.sub_self]; rfl
theorem nmF_vb (T at_ : Int) (hT : T < 2 ^ 64) (hat : 0 ≤ at_) (q : List Int) : ∀ (d i : Nat) (zr acc : Int) (p b : List Int), d + i = 9 → 0 ≤ zr → 0 ≤ acc → acc < 2 ^ (7 * i) → acc + zr * 2 ^ (7 * i) = T → (0 < i → 0 < zr) → b = p ++ (vbF d zr ++ q) → at_ + (i : Int) = (p.length : Int) →
    nmF b at_ (d + 1) i acc = (dcN T, (i : Int) + ((vbF d zr).length : Int), none) := by
  intro d
  induction d with
  | zero =>
    intro i zr acc p b hd h0 ha0 ha1 hTe hz hb hp
    obtain rfl : i = 9 := by omega
    have hzr : zr ≤ 1 := by
      have e : (2 : Int) ^ (7 * 9) = 9223372036854775808 := by decide
      rw [e] at hTe
      have hT' : T < 18446744073709551616 := hT
      omega
    have hr : rd b (at_ + ((9 : Nat) : Int)) = zr := by rw [hb]; exact rd_mid p zr q _ hp
    have hlen : at_ + ((9 : Nat) : Int) < (b.length : Int) := by rw [hb, hp]; simp [vbF]; omega
    have hzN : zN acc zr 9 = T := by
      rw [zN_eq acc zr 9 (by omega) h0 (by omega) ha0 ha1 (by rw [show zr % 128 = zr by omega]; have := hTe; have hT' : T < 18446744073709551616 := hT; show zr * 9223372036854775808 < 18446744073709551616; omega), show zr % 128 = zr by omega, hTe]
    simp only [nmF]
    rw [if_pos hlen, hr, if_neg (by omega), if_neg (by omega), if_neg (by have := hz (by omega); omega), hzN]
    rfl
  | succ d ih =>
    intro i zr acc p b hd h0 ha0 ha1 hTe hz hb hp
    have hP : (0 : Int) < 2 ^ (7 * i) := Int.pow_pos (by omega)
    have hi8 : i ≤ 8 := by omega
    by_cases h : zr < 128
    · have ev : vbF (d + 1) zr = [zr] := by unfold vbF; rw [if_pos h]
      rw [ev] at hb ⊢
      have hr : rd b (at_ + (i : Int)) = zr := by rw [hb]; exact rd_mid p zr q _ hp
      have hlen : at_ + (i : Int) < (b.length : Int) := by rw [hb, hp]; simp; omega
      have hzN : zN acc zr i = T := by
        rw [zN_eq acc zr i (by omega) h0 (by omega) ha0 ha1 (by rw [show zr % 128 = zr by omega]; omega), show zr % 128 = zr by omega, hTe]
      rw [nmF, if_pos hlen, hr, if_neg (by omega), if_neg (by omega), if_neg (by intro hc; have := hz (by omega); omega), hzN]
      rfl
    · have ev : vbF (d + 1) zr = (zr % 128 + 128) :: vbF d (zr / 128) := by rw [vbF, if_neg h]
      rw [ev] at hb ⊢
      have hr : rd b (at_ + (i : Int)) = zr % 128 + 128 := by rw [hb]; exact rd_mid p _ _ _ hp
      have hlen : at_ + (i : Int) < (b.length : Int) := by rw [hb, hp]; simp; omega
      have e7 : (2 : Int) ^ (7 * (i + 1)) = 2 ^ (7 * i) * 128 := by rw [Nat.mul_add, Int.pow_add]; rfl
      have em : (zr % 128 + 128) % 128 = zr % 128 := by omega
      have hmP : zr % 128 * 2 ^ (7 * i) ≤ 127 * 2 ^ (7 * i) := Int.mul_le_mul_of_nonneg_right (by omega) (by omega)
      have hmP0 : 0 ≤ zr % 128 * 2 ^ (7 * i) := Int.mul_nonneg (by omega) (by omega)
      have hsum : zr % 128 * 2 ^ (7 * i) + zr / 128 * (2 ^ (7 * i) * 128) = zr * 2 ^ (7 * i) := by
        have hz2 : zr = zr % 128 + 128 * (zr / 128) := by omega
        generalize (2 : Int) ^ (7 * i) = P
        generalize zr % 128 = m at hz2 ⊢
        generalize zr / 128 = u at hz2 ⊢
        subst hz2
        grind
      have hq0 : 0 ≤ zr / 128 * (2 ^ (7 * i) * 128) := Int.mul_nonneg (by omega) (by omega)
      have hzN : zN acc (zr % 128 + 128) i = acc + zr % 128 * 2 ^ (7 * i) := by
        rw [zN_eq acc _ i (by omega) (by omega) (by omega) ha0 ha1 (by rw [em]; omega), em]
      have ih' := ih (i + 1) (zr / 128) (acc + zr % 128 * 2 ^ (7 * i)) (p ++ [zr % 128 + 128]) b (by omega) (by omega) (by omega) (by rw [e7]; omega) (by rw [e7]; omega) (by omega) (by rw [hb]; simp) (by rw [List.length_append]; simp; omega)
      rw [nmF, if_pos hlen, hr, if_neg (by omega), if_pos (by omega), hzN, ih']
      simp only [List.length_cons]
      congr 2
      omega
theorem nm_enc (n : Int) (h : In64' n) (p q : List Int) : nm (p ++ (enc n ++ q)) (p.length : Int) = (n, ((enc n).length : Int), none) := by
  have hz := zz_bd n h
  show nmF (p ++ (vbF 9 (zz n) ++ q)) (p.length : Int) (9 + 1) 0 0 = (n, ((vbF 9 (zz n)).length : Int), none)
  rw [nmF_vb (zz n) (p.length : Int) hz.2 (by omega) q 9 0 (zz n) 0 p _ (by omega) hz.1 (by omega) (by decide) (by simp) (by omega) rfl (by omega), dc_zz n h]
  simp
theorem numS_enc (n low high : Int) (h : In64' n) (p q : List Int) (at_ : Int) (ha : at_ = (p.length : Int)) : numS (p ++ (enc n ++ q)) at_ none low high = if n < low ∨ n > high then (0, at_, some (103, at_)) else (n, at_ + ((enc n).length : Int), none) := by
  subst ha
  unfold numS
  rw [nm_enc n h p q]
theorem first_eq (k : Nat) (hk : 200 < k) : pledgelaw1_first.f k = some true := by
  unfold pledgelaw1_first.f
  rw [Put_eq [] [-1, 64] (by simp) (by intro x hx; simp at hx; rcases hx with rfl | rfl <;> (unfold In64'; omega)) (by simp) k (by simp; omega), Option.bind_some, show ([] : List Int) ++ encs [-1, 64] = [1, 128, 1] from rfl, Same_eq [1, 128, 1] [1, 128, 1] (by simp) k (by simp; omega)]
  rfl
theorem or_u64_128 (z : Int) (h0 : 0 ≤ z) (h1 : z < 2 ^ 64) : Go.bits .or .u64 (Go.bits .and .u64 z 127) 128 % 256 = z % 128 + 128 := by
  have e : Go.bits .and .u64 z 127 = z % 128 := bits_mask .u64 64 (by decide) u64_id 7 (by decide) z h0 h1
  have h2 : ∀ m : Fin 128, Go.bits .or .u64 ((m.1 : Nat) : Int) 128 = ((m.1 : Nat) : Int) + 128 := by decide +kernel
  obtain ⟨m, hm⟩ := Int.eq_ofNat_of_zero_le (show 0 ≤ z % 128 by omega)
  have h3 : Go.bits .or .u64 (m : Int) 128 = (m : Int) + 128 := h2 ⟨m, by omega⟩
  rw [e, hm, h3]
  omega
theorem rput_l0 : ∀ (d : Nat) (z : Int) (b : List Int) (k : Nat), 0 ≤ z → z < 2 ^ 64 → z < 128 ^ (d + 1) → b.length + d < 1000000 → d < k → pledgeref1_Put.l0 k b z = some (b ++ vbF d z)
  | 0, z, b, k, h0, _, h1, hb, hk => by
    obtain ⟨k, rfl⟩ : ∃ m, k = m + 1 := ⟨k - 1, by omega⟩
    have h1' : z < 128 := by simpa using h1
    simp only [pledgeref1_Put.l0, vbF]
    rw [if_neg (by omega), if_pos (by omega), show z % 256 = z by omega]
  | d + 1, z, b, k, h0, h64, h1, hb, hk => by
    obtain ⟨k, rfl⟩ : ∃ m, k = m + 1 := ⟨k - 1, by omega⟩
    simp only [pledgeref1_Put.l0, vbF]
    by_cases h : z < 128
    · rw [if_neg (by omega), if_pos (by omega), if_pos h, show z % 256 = z by omega]
    · have h2 : z / 128 < 128 ^ (d + 1) := by
        have e : (128 : Int) ^ (d + 1 + 1) = 128 ^ (d + 1) * 128 := Int.pow_succ ..
        rw [e] at h1
        generalize (128 : Int) ^ (d + 1) = P at h1 ⊢
        omega
      rw [if_pos (by omega), if_pos (by omega), if_neg h, or_u64_128 z h0 h64, rput_l0 d (z / 128) _ k (by omega) (Int.lt_of_le_of_lt (by omega) h64) h2 (by simp; omega) (by omega), List.append_assoc]
      rfl
theorem rput_eq (b : List Int) (n : Int) (h : In64' n) (hb : b.length < 900000) (k : Nat) (hk : 1000020 < k) : pledgeref1_Put.f k b n = some (b ++ enc n) := by
  have hz := zz_bd n h
  have key : ∀ z, z = zz n → pledgeref1_Put.j0 k b z = some (b ++ enc n) := fun z e => by
    obtain ⟨k1, rfl⟩ : ∃ m, k = m + 1 := ⟨k - 1, by omega⟩
    simp only [pledgeref1_Put.j0]
    rw [e]
    exact rput_l0 9 _ b k1 hz.1 hz.2 (Int.lt_trans hz.2 (by decide)) (by omega) (by omega)
  unfold pledgeref1_Put.f
  rw [Bytes_eq b (by omega) k (by omega), Option.bind_some]
  obtain ⟨h0, h1⟩ := h
  by_cases hn : n < 0
  · rw [if_pos hn]
    apply key
    rw [wu64, wu64, xor_max _ (by omega) (by omega)]
    unfold zz; rw [if_neg (by omega)]; omega
  · rw [if_neg hn]
    apply key
    rw [wu64, wu64]
    unfold zz; rw [if_pos (by omega)]; omega
/-- All bytes, around one number's. -/
theorem encs_at (l : List Int) (i : Nat) (hi : i < l.length) : encs l = encs (l.take i) ++ (enc (rd l (i : Int)) ++ encs (l.drop (i + 1))) ∧ encs (l.take (i + 1)) = encs (l.take i) ++ enc (rd l (i : Int)) := by
  have et : l.take (i + 1) = l.take i ++ [rd l (i : Int)] := by
    rw [List.take_succ_eq_append_getElem hi, rd_nat, List.getD_eq_getElem?_getD, List.getElem?_eq_getElem hi]; rfl
  have ev : encs (l.take (i + 1)) = encs (l.take i) ++ enc (rd l (i : Int)) := by rw [et, encs_append]; simp [encs]
  refine ⟨?_, ev⟩
  have : l = l.take (i + 1) ++ l.drop (i + 1) := (List.take_append_drop _ _).symm
  rw [← List.append_assoc, ← ev, ← encs_append, ← this]
theorem numS_at (l : List Int) (hn : ∀ n ∈ l, In64' n) (i : Nat) (hi : i < l.length) (lo hi' : Int) : numS (encs l) ((encs (l.take i)).length : Int) none lo hi' = if rd l (i : Int) < lo ∨ rd l (i : Int) > hi' then (0, ((encs (l.take i)).length : Int), some (103, ((encs (l.take i)).length : Int))) else (rd l (i : Int), ((encs (l.take (i + 1))).length : Int), none) := by
  obtain ⟨e1, e2⟩ := encs_at l i hi
  rw [e2]
  rw [e1, numS_enc _ lo hi' (hn _ (rd_mem l i hi)) _ _ _ rfl]
  split
  · rfl
  · rw [List.length_append]; simp
theorem encs_take_le (l : List Int) (i : Nat) : (encs (l.take i)).length ≤ (encs l).length := by
  have e : l = l.take i ++ l.drop i := (List.take_append_drop _ _).symm
  have : (encs l).length = (encs (l.take i)).length + (encs (l.drop i)).length := by rw [← List.length_append, ← encs_append, ← e]
  omega
theorem refL_eq (k : Nat) (l b : List Int) (hl : l.length ≤ 30) (hn : ∀ n ∈ l, In64' n) (hb : b.length ≤ 100) (hk : 1000020 < k) : ∀ (d i : Nat), i + d = l.length → refL k l d i (b ++ encs (l.take i)) = some (b ++ encs l)
  | 0, i, h => by rw [List.take_of_length_le (by omega)]; rfl
  | d + 1, i, h => by
    have hle := encs_take_le l i
    have hln := encs_len l
    simp only [refL]
    rw [rput_eq _ _ (hn _ (rd_mem l i (by omega))) (by rw [List.length_append]; omega) k hk, Option.bind_some, List.append_assoc, ← (encs_at l i (by omega)).2]
    exact refL_eq k l b hl hn hb hk d (i + 1) (by omega)
theorem oneL_eq (k : Nat) (l b : List Int) (hl : l.length ≤ 30) (hn : ∀ n ∈ l, In64' n) (hb : b.length ≤ 100) (hk : 1000020 < k) : ∀ (d i : Nat), i + d = l.length → oneL k l d i (b ++ encs (l.take i)) = some (b ++ encs l)
  | 0, i, h => by rw [List.take_of_length_le (by omega)]; rfl
  | d + 1, i, h => by
    have hle := encs_take_le l i
    have hln := encs_len l
    have hm := hn _ (rd_mem l i (by omega))
    simp only [oneL]
    rw [Put_eq _ [rd l (i : Int)] (by simp) (by intro x hx; rw [List.mem_singleton.1 hx]; exact hm) (by rw [List.length_append]; omega) k (by simp; omega), Option.bind_some, show PrWirePuts.encs [rd l (i : Int)] = enc (rd l (i : Int)) by simp [PrWirePuts.encs], List.append_assoc, ← (encs_at l i (by omega)).2]
    exact oneL_eq k l b hl hn hb hk d (i + 1) (by omega)
theorem rdL_eq (l : List Int) (hn : ∀ n ∈ l, In64' n) : ∀ (d i : Nat), i + d = l.length → rdL (encs l) l d i ((encs (l.take i)).length : Int) = some ((encs l).length : Int)
  | 0, i, h => by rw [List.take_of_length_le (by omega)]; rfl
  | d + 1, i, h => by
    have hm := hn _ (rd_mem l i (by omega))
    unfold In64' at hm
    have hs := numS_at l hn i (by omega) (-9223372036854775808) 9223372036854775807
    rw [if_neg (by omega)] at hs
    have hle := encs_take_le l (i + 1)
    have ih := rdL_eq l hn d (i + 1) (by omega)
    simp only [rdL]
    rw [hs]
    simp only []
    rw [if_pos ⟨trivial, trivial, by omega, by omega⟩, ih]
end Go.Proofs.YtccipdelkmmngaaDoor.PrWirePuts
namespace Go.Proofs.YtccipdelkmmngaaDoor.Pr
open Go.RowKit Go.Proofs.YtccipdelkmmngaaDoor.EWirePuts Go.Proofs.YtccipdelkmmngaaDoor.PrWirePuts
theorem WirePuts : pledgelaw1_WirePuts.Pure := by
  intro b l _ _ _ hr
  obtain ⟨k, hk⟩ : ∃ k : Nat, 1000020 < k := ⟨1000021, by omega⟩
  refine ⟨k, ?_⟩
  unfold pledgelaw1_WirePuts.f
  rw [first_eq k (by omega), Option.bind_some, if_pos rfl]
  by_cases h100 : 100 < b.length
  · rw [if_pos h100]
  rw [if_neg h100]
  by_cases h50 : 30 < l.length
  · rw [if_pos h50]
  have hn : ∀ n ∈ l, In64' n := fun n hm => hr.2 n hm
  have hln := encs_len l
  have h1 := refL_eq k l b (by omega) hn (by omega) hk l.length 0 (by omega)
  have h2 := oneL_eq k l b (by omega) hn (by omega) hk l.length 0 (by omega)
  have h3 := rdL_eq l hn l.length 0 (by omega)
  have h1' : refL k l l.length 0 b = some (b ++ PrWirePuts.encs l) := by simpa [PrWirePuts.encs] using h1
  have h2' : oneL k l l.length 0 b = some (b ++ PrWirePuts.encs l) := by simpa [PrWirePuts.encs] using h2
  have h3' : rdL (PrWirePuts.encs l) l l.length 0 0 = some ((PrWirePuts.encs l).length : Int) := by simpa [PrWirePuts.encs] using h3
  have hS : ∀ x : List Int, x.length ≤ 5000 → Go.Proofs.YtccipdelkmmngaaDoor.EWirePuts.pledgeref_SameBytes.f k x x = some true := fun x hx => by rw [Same_eq x x (by omega) k (by omega)]; simp
  rw [if_neg h50, if_pos (Bytes_eq b (by omega) k (by omega)), h1', Option.bind_some, Put_eq b l (by omega) hn (by omega) k (by omega), Option.bind_some, h2', Option.bind_some, Put_eq [] l (by omega) hn (by simp) k (by omega), Option.bind_some, List.nil_append,
    if_pos ⟨⟨hS _ (by rw [List.length_append]; omega), hS _ (by rw [List.length_append]; omega), hS _ (by omega)⟩, by omega, h3'⟩]
end Go.Proofs.YtccipdelkmmngaaDoor.Pr
