/- A result whose worth or cost is another one, whose take is none, or does not fit, is told: the pure statement of CertWrong, for all numbers. Conditions: none beyond the statement's own. -/
import Derived.Test.YteooecifecaikaaDoorECertWrongx
import Derived.Test.YteooecifecaikaaDoorOpen
namespace Go.Proofs.YteooecifecaikaaDoor.PrCertWrong
open Go.RowKit Go.Proofs.YteooecifecaikaaDoor.ECertWrong Go.Proofs.YteooecifecaikaaDoorW.PrintWords Go.Proofs.YteooecifecaikaaDoorW.PrintLast Go.Proofs.YteooecifecaikaaDoorW.PrintMore Go.Proofs.YteooecifecaikaaDoorW.PrintOpen
set_option linter.unusedSimpArgs false
set_option linter.unusedVariables false
theorem w64 (x : Int) (h1 : -9223372036854775808 ≤ x) (h2 : x ≤ 9223372036854775807) : wrap64 x = x := by unfold wrap64; omega
theorem w64s (x : Int) (h1 : -1000000000 ≤ x) (h2 : x ≤ 1000000000) : wrap64 x = x := by unfold wrap64; omega
theorem wu64 (n : Int) : IntKind.u64.wrap n = n % 18446744073709551616 := by simp [IntKind.wrap, IntKind.bits, IntKind.signed]
theorem rd_nat (l : List Int) (i : Nat) : rd l (i : Int) = l.getD i 0 := by unfold rd; rw [Int.toNat_natCast]
theorem rd_mem (l : List Int) (i : Nat) (h : i < l.length) : rd l (i : Int) ∈ l := by
  rw [rd_nat, List.getD_eq_getElem?_getD, List.getElem?_eq_getElem h]; exact List.getElem_mem h
theorem take_snoc_sum (l : List Int) (i : Nat) (h : i < l.length) : (l.take (i + 1)).sum = (l.take i).sum + rd l (i : Int) := by
  rw [List.take_succ_eq_append_getElem h, List.sum_append, rd_nat, List.getD_eq_getElem?_getD, List.getElem?_eq_getElem h]; simp
theorem and32 (x : Int) (h0 : 0 ≤ x) (h1 : x < 18446744073709551616) : Go.bits .and .u64 x 4294967295 = x % 4294967296 := by
  have := bits_mask .u64 64 (by decide) (fun n a b => by rw [wu64]; omega) 32 (by decide) x h0 (by omega)
  simpa using this
theorem pb (x y : Int) (hx : 0 ≤ x) (hx1 : x < 4294967296) (hy : 0 ≤ y) (hy1 : y < 4294967296) : 0 ≤ x * y ∧ x * y ≤ 18446744065119617025 := by
  refine ⟨Int.mul_nonneg hx hy, ?_⟩
  have := Int.mul_le_mul (show x ≤ 4294967295 by omega) (show y ≤ 4294967295 by omega) hy (by omega)
  omega
theorem split32 (a b : Int) : a * b = (a / 4294967296) * (b / 4294967296) * 18446744073709551616 + ((a / 4294967296) * (b % 4294967296) + (a % 4294967296) * (b / 4294967296)) * 4294967296 + (a % 4294967296) * (b % 4294967296) := by
  have h1 : a = (a / 4294967296) * 4294967296 + a % 4294967296 := by omega
  have h2 : b = (b / 4294967296) * 4294967296 + b % 4294967296 := by omega
  generalize a / 4294967296 = a1 at *
  generalize a % 4294967296 = a0 at *
  generalize b / 4294967296 = b1 at *
  generalize b % 4294967296 = b0 at *
  subst h1 h2
  grind
theorem Wide_eq (a b : Int) (ha0 : 0 ≤ a) (ha1 : a < 18446744073709551616) (hb0 : 0 ≤ b) (hb1 : b < 18446744073709551616) :
    fix_Wide.f a b = some (a * b / 18446744073709551616, a * b % 18446744073709551616) := by
  unfold fix_Wide.f
  simp only [wu64, and32 a ha0 ha1, and32 b hb0 hb1]
  have e := split32 a b
  obtain ⟨q1, q2⟩ := pb (a / 4294967296) (b / 4294967296) (by omega) (by omega) (by omega) (by omega)
  obtain ⟨q3, q4⟩ := pb (a / 4294967296) (b % 4294967296) (by omega) (by omega) (by omega) (by omega)
  obtain ⟨q5, q6⟩ := pb (a % 4294967296) (b / 4294967296) (by omega) (by omega) (by omega) (by omega)
  obtain ⟨q7, q8⟩ := pb (a % 4294967296) (b % 4294967296) (by omega) (by omega) (by omega) (by omega)
  generalize a / 4294967296 * (b / 4294967296) = p11 at *
  generalize a / 4294967296 * (b % 4294967296) = p10 at *
  generalize a % 4294967296 * (b / 4294967296) = p01 at *
  generalize a % 4294967296 * (b % 4294967296) = p00 at *
  generalize a * b = p at *
  rw [and32 _ (by omega) (by omega)]
  congr 2
  omega
theorem number_eq (v b : Int) (h0 : 0 < b) (h1 : b ≤ 1000000000) : pledgeworld_Number.f v b = some (v % b) := by
  unfold pledgeworld_Number.f
  rw [if_neg (by omega)]
  have h1 := Int.tmod_lt_of_pos v h0
  have h2 := Int.lt_tmod_of_pos v h0
  have h3 := Int.emod_nonneg v (show b ≠ 0 by omega)
  have h4 := Int.emod_lt_of_pos v h0
  have h5 := Int.emod_add_mul_ediv v b
  have h6 := Int.tmod_add_mul_tdiv v b
  have key : ∃ c : Int, Int.tmod v b = v % b + b * c := ⟨v / b - Int.tdiv v b, by rw [Int.mul_sub]; omega⟩
  obtain ⟨c, hc⟩ := key
  have hcc : c = 0 ∨ c = -1 := by
    have a1 : c < 1 := by
      apply Decidable.byContradiction; intro hx
      have : b * 1 ≤ b * c := Int.mul_le_mul_of_nonneg_left (by omega) (by omega)
      omega
    have a2 : -2 < c := by
      apply Decidable.byContradiction; intro hx
      have : b * c ≤ b * (-2) := Int.mul_le_mul_of_nonneg_left (by omega) (by omega)
      omega
    omega
  rcases hcc with rfl | rfl
  · rw [if_neg (by omega)]; congr 1; omega
  · rw [if_pos (by omega), w64s _ (by omega) (by omega)]; congr 1; omega
/-- A number of 64 bits with a sign. -/
def In64 (n : Int) : Prop := -9223372036854775808 ≤ n ∧ n ≤ 9223372036854775807
instance (n : Int) : Decidable (In64 n) := by unfold In64; infer_instance
theorem size_eq (a : Int) (h : In64 a) : fix_size.f a = some (if a < 0 then -a else a, decide (a < 0)) := by
  obtain ⟨h0, h1⟩ := h
  unfold fix_size.f
  by_cases hn : a < 0
  · rw [if_pos hn, if_pos hn, decide_eq_true hn, wu64, wu64]
    have : -(a % 18446744073709551616) % 18446744073709551616 = -a := by omega
    rw [this]
  · rw [if_neg hn, if_neg hn, decide_eq_false hn, wu64]
    have : a % 18446744073709551616 = a := by omega
    rw [this]
theorem abs_mul (a b : Int) : (if a < 0 then -a else a) * (if b < 0 then -b else b) = if (a < 0) ≠ (b < 0) then -(a * b) else a * b := by
  by_cases h1 : a < 0 <;> by_cases h2 : b < 0 <;> simp [h1, h2] <;> grind
theorem and_low (n : Int) : Go.bits .and .i64 n 4294967295 = n % 4294967296 := by
  have e : ((BitVec.ofInt 64 n) &&& (BitVec.ofInt 64 4294967295)).toNat = (n % 18446744073709551616).toNat % 2 ^ 32 := by
    rw [BitVec.toNat_and, BitVec.toNat_ofInt, show (BitVec.ofInt 64 4294967295).toNat = 2 ^ 32 - 1 from rfl, Nat.and_two_pow_sub_one_eq_mod]
    rfl
  show IntKind.i64.wrap (((BitVec.ofInt 64 n) &&& (BitVec.ofInt 64 4294967295)).toNat : Int) = _
  rw [e, IntKind.wrap_i64]
  omega
theorem or_halves (h l : Int) (h0 : -2147483648 ≤ h) (h1 : h ≤ 2147483647) (l0 : 0 ≤ l) (l1 : l < 4294967296) : Go.bits .or .i64 (wrap64 (h * 4294967296)) l = h * 4294967296 + l := by
  rw [w64 _ (by omega) (by omega)]
  obtain ⟨b, rfl⟩ := Int.eq_ofNat_of_zero_le l0
  have hb : b < 2 ^ 32 := by omega
  have ea : (BitVec.ofInt 64 (h * 4294967296)).toNat = 2 ^ 32 * (h % 4294967296).toNat := by
    rw [BitVec.toNat_ofInt, show ((2 ^ 64 : Nat) : Int) = 18446744073709551616 from rfl]
    omega
  have eb : (BitVec.ofInt 64 (b : Int)).toNat = b := by
    rw [BitVec.toNat_ofInt, show ((2 ^ 64 : Nat) : Int) = 18446744073709551616 from rfl]
    omega
  show IntKind.i64.wrap (((BitVec.ofInt 64 (h * 4294967296)) ||| (BitVec.ofInt 64 (b : Int))).toNat : Int) = _
  rw [BitVec.toNat_or, ea, eb, ← Nat.two_pow_add_eq_or_of_lt hb, IntKind.wrap_i64]
  omega
theorem xor_max (x : Int) (h0 : 0 ≤ x) (h1 : x < 18446744073709551616) : Go.bits .xor .u64 IntKind.u64.max x = 18446744073709551615 - x := by
  obtain ⟨n, rfl⟩ := Int.eq_ofNat_of_zero_le h0
  have en : (BitVec.ofInt 64 (n : Int)).toNat = n := by
    rw [BitVec.toNat_ofInt, show ((2 ^ 64 : Nat) : Int) = 18446744073709551616 from rfl]
    omega
  show IntKind.u64.wrap (((BitVec.ofInt 64 IntKind.u64.max) ^^^ (BitVec.ofInt 64 (n : Int))).toNat : Int) = _
  have em : BitVec.ofInt 64 IntKind.u64.max = BitVec.allOnes 64 := rfl
  rw [em, BitVec.allOnes_xor, BitVec.toNat_not, en, wu64]
  omega
/-- Sizes: how far a number is from 0. -/
def ab (a : Int) : Int := if a < 0 then -a else a
theorem ab_bd (a : Int) (h : In64 a) : 0 ≤ ab a ∧ ab a ≤ 9223372036854775808 := by unfold ab; obtain ⟨h0, h1⟩ := h; split <;> omega
theorem ab_mul (a b : Int) : ab a * ab b = if (decide (a < 0) != decide (b < 0)) = true then -(a * b) else a * b := by
  have := abs_mul a b
  unfold ab
  rw [this]
  by_cases h1 : a < 0 <;> by_cases h2 : b < 0 <;> simp [h1, h2]
theorem ab_prod (a b : Int) (ha : In64 a) (hb : In64 b) : 0 ≤ ab a * ab b ∧ ab a * ab b ≤ 85070591730234615865843651857942052864 := by
  obtain ⟨a0, a1⟩ := ab_bd a ha
  obtain ⟨b0, b1⟩ := ab_bd b hb
  refine ⟨Int.mul_nonneg a0 b0, ?_⟩
  have : ab a * ab b ≤ 9223372036854775808 * 9223372036854775808 := Int.mul_le_mul a1 b1 b0 (by omega)
  omega
theorem product_eq (a b : Int) (ha : In64 a) (hb : In64 b) : fix_product.f a b = some (a * b / 18446744073709551616, a * b % 18446744073709551616) := by
  unfold fix_product.f
  have ⟨a0, a1⟩ := ab_bd a ha
  have ⟨b0, b1⟩ := ab_bd b hb
  rw [size_eq a ha, size_eq b hb]
  simp only [Option.bind_some]
  rw [show (if a < 0 then -a else a) = ab a from rfl, show (if b < 0 then -b else b) = ab b from rfl, Wide_eq _ _ a0 (by omega) b0 (by omega)]
  simp only [Option.bind_some]
  have hm := ab_mul a b
  have ⟨p0, p1⟩ := ab_prod a b ha hb
  generalize ab a * ab b = P at *
  have hnb : (decide (a < 0) == decide (b < 0)) = !(decide (a < 0) != decide (b < 0)) := by simp [bne]
  rw [hnb]
  generalize (decide (a < 0) != decide (b < 0)) = neg at *
  clear hnb ha hb a0 a1 b0 b1
  have m0 := Int.emod_nonneg P (show (18446744073709551616 : Int) ≠ 0 by omega)
  have m1 := Int.emod_lt_of_pos P (show (0 : Int) < 18446744073709551616 by omega)
  have q0 : 0 ≤ P / 18446744073709551616 := by omega
  have q1 : P / 18446744073709551616 ≤ 4611686018427387904 := by omega
  have e := Int.emod_add_mul_ediv P 18446744073709551616
  cases neg with
  | false =>
    simp only [Bool.not_false, if_true, Bool.false_eq_true, if_false] at hm ⊢
    rw [w64 _ (by omega) (by omega), hm]
  | true =>
    simp only [Bool.not_true, Bool.false_eq_true, if_false, if_true] at hm ⊢
    rw [xor_max _ m0 m1, xor_max _ q0 (by omega), if_pos (by omega), wu64]
    have hX : a * b = -P := by omega
    rw [hX]
    congr 2
    · generalize P / 18446744073709551616 = q at *
      generalize P % 18446744073709551616 = r at *
      have hP : P = 18446744073709551616 * q + r := by omega
      subst hP
      clear hX hm p0 p1 e
      unfold wrap64
      by_cases hr : r = 0
      · subst hr; omega
      · omega
    · omega
theorem Or2 (x y : Int) (k : Nat) (hk : 3 < k) : cmp_Or_int.f k [x, y] = some (if x = 0 then y else x) := by
  unfold cmp_Or_int.f
  have hl : (([x, y] : List Int).length : Int) = 2 := rfl
  rw [hl]
  have r0 : rd [x, y] 0 = x := rfl
  have r1 : rd [x, y] 1 = y := rfl
  obtain ⟨k, rfl⟩ : ∃ m, k = m + 1 := ⟨k - 1, by omega⟩
  simp only [cmp_Or_int.l0]
  rw [if_pos (by omega), if_pos (by omega), hl, if_pos (by omega), r0, show wrap64 (0 + 1) = 1 from by rw [w64s _ (by omega) (by omega)]; rfl]
  by_cases hx : x = 0
  · rw [if_pos hx, if_pos hx]
    obtain ⟨k, rfl⟩ : ∃ m, k = m + 1 := ⟨k - 1, by omega⟩
    simp only [cmp_Or_int.l0]
    rw [if_pos (by omega), if_pos (by omega), hl, if_pos (by omega), r1, show wrap64 (1 + 1) = 2 from by rw [w64s _ (by omega) (by omega)]; rfl]
    by_cases hy : y = 0
    · rw [if_pos hy]
      obtain ⟨k, rfl⟩ : ∃ m, k = m + 1 := ⟨k - 1, by omega⟩
      simp only [cmp_Or_int.l0]
      rw [if_neg (by omega), hy]
    · rw [if_neg hy]
  · rw [if_neg hx, if_neg hx]
theorem Cmp64_eq (a b : Int) : cmp_Compare_int64.f a b = some (if a < b then -1 else if b < a then 1 else 0) := by
  unfold cmp_Compare_int64.f cmp_isNaN_int64.f
  simp only [Option.bind_some, bne_self_eq_false, Bool.false_eq_true, if_false]
  repeat' split
  all_goals first | rfl | omega
theorem CmpU_eq (a b : Int) : cmp_Compare_uint64.f a b = some (if a < b then -1 else if b < a then 1 else 0) := by
  unfold cmp_Compare_uint64.f cmp_isNaN_uint64.f
  simp only [Option.bind_some, bne_self_eq_false, Bool.false_eq_true, if_false]
  repeat' split
  all_goals first | rfl | omega
theorem lex_hi (X Y p r q s : Int) (hX : X = 18446744073709551616 * p + r) (hY : Y = 18446744073709551616 * q + s) (r0 : 0 ≤ r) (r1 : r < 18446744073709551616) (s0 : 0 ≤ s) (s1 : s < 18446744073709551616) :
    (if (if p < q then (-1 : Int) else if q < p then 1 else 0) = 0 then (if r < s then (-1 : Int) else if s < r then 1 else 0) else (if p < q then (-1 : Int) else if q < p then 1 else 0)) = if X < Y then -1 else if Y < X then 1 else 0 := by
  by_cases h1 : p < q
  · rw [if_pos h1, if_neg (show ¬ (-1 : Int) = 0 by omega), if_pos (show X < Y by omega)]
  · rw [if_neg h1]
    by_cases h2 : q < p
    · rw [if_pos h2, if_neg (show ¬ (1 : Int) = 0 by omega), if_neg (show ¬ X < Y by omega), if_pos (show Y < X by omega)]
    · rw [if_neg h2, if_pos rfl]
      obtain rfl : p = q := by omega
      by_cases h3 : r < s
      · rw [if_pos h3, if_pos (show X < Y by omega)]
      · rw [if_neg h3]
        by_cases h4 : s < r
        · rw [if_pos h4, if_neg (show ¬ X < Y by omega), if_pos (show Y < X by omega)]
        · rw [if_neg h4, if_neg (show ¬ X < Y by omega), if_neg (show ¬ Y < X by omega)]
theorem Cmp_eq (a b c d : Int) (ha : In64 a) (hb : In64 b) (hc : In64 c) (hd : In64 d) (k : Nat) (hk : 3 < k) :
    fix_Cmp.f k a b c d = some (if a * b < c * d then -1 else if c * d < a * b then 1 else 0) := by
  unfold fix_Cmp.f
  rw [product_eq a b ha hb, product_eq c d hc hd]
  generalize a * b = X
  generalize c * d = Y
  simp only [Option.bind_some]
  rw [Cmp64_eq, CmpU_eq]
  simp only [Option.bind_some]
  rw [Or2 _ _ k hk]
  simp only [Option.bind_some]
  rw [lex_hi X Y _ _ _ _ (by omega) (by omega) (by omega) (by omega) (by omega) (by omega)]
/-- A lot that may be. -/
def okL (x : S47) : Prop := (0 ≤ x.f0 ∧ x.f0 ≤ 1000) ∧ (0 ≤ x.f1 ∧ x.f1 ≤ 1000000000) ∧ (0 ≤ x.f2 ∧ x.f2 ≤ 1000000000)
theorem lotB_ok (x : S47) (n : Int) (h : lotB x n = true) : okL x ∧ 0 ≤ x.f3 ∧ x.f3 < n := by
  unfold lotB inB at h
  simp only [Bool.and_eq_true, decide_eq_true_eq] at h
  exact ⟨⟨h.1.1.1, h.1.1.2, h.1.2⟩, h.2⟩
theorem Valid_none {L : List S47} {C : List Int} {N : Int} (h : lots_Valid.f L C N = some none) : (0 < L.length ∧ L.length ≤ 8) ∧ (∀ x ∈ L, okL x ∧ 0 ≤ x.f3 ∧ x.f3 < (C.length : Int)) ∧ (0 < C.length ∧ C.length ≤ 8) ∧ (∀ n ∈ C, 0 ≤ n ∧ n ≤ 1000000000000) ∧ 0 ≤ N ∧ N ≤ 1000000000000 := by
  unfold lots_Valid.f at h
  have h := Option.some.inj h
  by_cases h1 : L.length = 0 ∨ 8 < L.length ∨ C.length = 0 ∨ 8 < C.length
  · rw [if_pos h1] at h; cases h
  · rw [if_neg h1] at h
    by_cases h2 : (L.any fun x => !lotB x (C.length : Int)) = true ∨ (C.any fun n => !inB n 1000000000000) = true ∨ inB N 1000000000000 = false
    · rw [if_pos h2] at h; cases h
    · simp only [not_or, List.any_eq_true, not_exists, not_and] at h2
      obtain ⟨a, b, c⟩ := h2
      refine ⟨by omega, fun x hx => lotB_ok x _ ?_, by omega, fun n hn => ?_, ?_⟩
      · have := a x hx; simpa using this
      · have := b n hn
        unfold inB at this; simp at this; exact this
      · unfold inB at c; simp at c; exact c
theorem Valid_ex (L : List S47) (C : List Int) (N : Int) : ∃ r, lots_Valid.f L C N = some r := ⟨_, rfl⟩
/-- The lot at a place. -/
def lt (L : List S47) (j : Nat) : S47 := L.getD j z47
theorem rd_lt (L : List S47) (j : Nat) : rd_T47 L (j : Int) = lt L j := by unfold rd_T47 lt; rw [Int.toNat_natCast]
theorem lt_mem (L : List S47) (j : Nat) (h : j < L.length) : lt L j ∈ L := by
  unfold lt; rw [List.getD_eq_getElem?_getD, List.getElem?_eq_getElem h]; exact List.getElem_mem h
theorem lt_ok {L : List S47} (ok : ∀ x ∈ L, okL x) (j : Nat) (h : j < L.length) : okL (lt L j) := ok _ (lt_mem L j h)
/-- Cheaper for what it is worth. -/
def chp (a b : S47) : Bool := if a.f1 = 0 then decide (a.f1 > b.f1) else if b.f1 = 0 then decide (a.f1 > b.f1) else decide (a.f2 * b.f1 < b.f2 * a.f1)
theorem Cheaper_eq (a b : S47) (ha : okL a) (hb : okL b) (k : Nat) (hk : 3 < k) : lots_Cheaper.f k a.f0 a.f1 a.f2 a.f3 b.f0 b.f1 b.f2 b.f3 = some (chp a b) := by
  unfold lots_Cheaper.f chp
  obtain ⟨_, a1, a2⟩ := ha
  obtain ⟨_, b1, b2⟩ := hb
  by_cases h1 : a.f1 = 0
  · rw [if_pos h1, if_pos h1]
  · rw [if_neg h1, if_neg h1]
    by_cases h2 : b.f1 = 0
    · rw [if_pos h2, if_pos h2]
    · rw [if_neg h2, if_neg h2, Cmp_eq _ _ _ _ (by unfold In64; omega) (by unfold In64; omega) (by unfold In64; omega) (by unfold In64; omega) k hk]
      simp only [Option.bind_some]
      congr 1
      generalize a.f2 * b.f1 = X
      generalize b.f2 * a.f1 = Y
      by_cases h3 : X < Y
      · rw [if_pos h3, decide_eq_true h3]; rfl
      · rw [if_neg h3, decide_eq_false h3]
        by_cases h4 : Y < X
        · rw [if_pos h4]; rfl
        · rw [if_neg h4]; rfl
/-- What is taken of the first i lots of a group is worth. -/
def gS (L : List S47) (T : List Int) (g : Int) : Nat → Int
  | 0 => 0
  | i + 1 => gS L T g i + (if (lt L i).f3 = g then T.getD i 0 * (lt L i).f1 else 0)
/-- A cap. -/
def cap1 (c s : Int) : Int := if c > 0 then mn s c else s
/-- What the first m groups count. -/
def gV (L : List S47) (C T : List Int) : Nat → Int
  | 0 => 0
  | m + 1 => gV L C T m + cap1 (C.getD m 0) (gS L T m T.length)
/-- What a choice is worth. -/
def gW (L : List S47) (C T : List Int) : Int := gV L C T C.length
/-- What the first i cost. -/
def gK (L : List S47) (T : List Int) : Nat → Int
  | 0 => 0
  | i + 1 => gK L T i + T.getD i 0 * (lt L i).f2
/-- A choice that may be. -/
def okT (L : List S47) (T : List Int) : Prop := T.length = L.length ∧ ∀ i : Nat, i < L.length → 0 ≤ T.getD i 0 ∧ T.getD i 0 ≤ (lt L i).f0
theorem mul_bd {a b A B : Int} (ha : 0 ≤ a) (ha' : a ≤ A) (hb : 0 ≤ b) (hb' : b ≤ B) : 0 ≤ a * b ∧ a * b ≤ A * B :=
  ⟨Int.mul_nonneg ha hb, Int.le_trans (Int.mul_le_mul_of_nonneg_right ha' hb) (Int.mul_le_mul_of_nonneg_left hb' (Int.le_trans ha ha'))⟩
theorem pr_bd {L : List S47} {T : List Int} (ok : ∀ x ∈ L, okL x) (hT : okT L T) (i : Nat) (h : i < L.length) : 0 ≤ T.getD i 0 * (lt L i).f1 ∧ T.getD i 0 * (lt L i).f1 ≤ 1000000000000 := by
  obtain ⟨a, b, _⟩ := lt_ok ok i h
  obtain ⟨c, d⟩ := hT.2 i h
  have := mul_bd (A := 1000) (B := 1000000000) c (by omega) b.1 b.2
  omega
theorem pk_bd {L : List S47} {T : List Int} (ok : ∀ x ∈ L, okL x) (hT : okT L T) (i : Nat) (h : i < L.length) : 0 ≤ T.getD i 0 * (lt L i).f2 ∧ T.getD i 0 * (lt L i).f2 ≤ 1000000000000 := by
  obtain ⟨a, _, b⟩ := lt_ok ok i h
  obtain ⟨c, d⟩ := hT.2 i h
  have := mul_bd (A := 1000) (B := 1000000000) c (by omega) b.1 b.2
  omega
theorem gS_bd {L : List S47} {T : List Int} (ok : ∀ x ∈ L, okL x) (hT : okT L T) (g : Int) : ∀ i : Nat, i ≤ L.length → 0 ≤ gS L T g i ∧ gS L T g i ≤ i * 1000000000000
  | 0, _ => by simp [gS]
  | i + 1, h => by
    have h1 := gS_bd ok hT g i (by omega)
    have h2 := pr_bd ok hT i (by omega)
    simp only [gS]
    split <;> omega
theorem gK_bd {L : List S47} {T : List Int} (ok : ∀ x ∈ L, okL x) (hT : okT L T) : ∀ i : Nat, i ≤ L.length → 0 ≤ gK L T i ∧ gK L T i ≤ i * 1000000000000
  | 0, _ => by simp [gK]
  | i + 1, h => by
    have h1 := gK_bd ok hT i (by omega)
    have h2 := pk_bd ok hT i (by omega)
    simp only [gK]
    omega
theorem cap_bd (c s : Int) (h : 0 ≤ s) : 0 ≤ cap1 c s ∧ cap1 c s ≤ s := by
  unfold cap1 mn; split
  · split <;> omega
  · omega
theorem cap_le (c s v : Int) (hv : 0 ≤ v) : cap1 c s ≤ cap1 c (s + v) ∧ cap1 c (s + v) ≤ cap1 c s + v := by
  unfold cap1 mn; split
  · split <;> split <;> omega
  · omega
theorem gV_bd {L : List S47} {C T : List Int} (ok : ∀ x ∈ L, okL x) (hT : okT L T) (h8 : L.length ≤ 8) : ∀ m : Nat, 0 ≤ gV L C T m ∧ gV L C T m ≤ m * 8000000000000
  | 0 => by simp [gV]
  | m + 1 => by
    have h1 := gV_bd (C := C) ok hT h8 m
    have h2 := gS_bd ok hT (m : Int) T.length (by rw [hT.1]; omega)
    have h3 := cap_bd (C.getD m 0) _ h2.1
    have h4 := hT.1
    simp only [gV]
    omega
/-- Another choice that takes no less of any: it is worth no less. -/
theorem gS_le {L : List S47} {T U : List Int} (ok : ∀ x ∈ L, okL x) (h : ∀ i : Nat, i < L.length → T.getD i 0 ≤ U.getD i 0) (g : Int) : ∀ i : Nat, i ≤ L.length → gS L T g i ≤ gS L U g i
  | 0, _ => by simp [gS]
  | i + 1, hi => by
    have h1 := gS_le ok h g i (by omega)
    have h2 : T.getD i 0 * (lt L i).f1 ≤ U.getD i 0 * (lt L i).f1 := Int.mul_le_mul_of_nonneg_right (h i (by omega)) (lt_ok ok i (by omega)).2.1.1
    simp only [gS]
    split <;> omega
theorem cap_mono (c s t : Int) (h : s ≤ t) : cap1 c s ≤ cap1 c t := by
  have := (cap_le c s (t - s) (by omega)).1
  rwa [show s + (t - s) = t by omega] at this
theorem gV_le {L : List S47} {C T U : List Int} (ok : ∀ x ∈ L, okL x) (hT : okT L T) (hU : okT L U) (h : ∀ i : Nat, i < L.length → T.getD i 0 ≤ U.getD i 0) : ∀ m : Nat, gV L C T m ≤ gV L C U m
  | 0 => by simp [gV]
  | m + 1 => by
    have h1 := gV_le (C := C) ok hT hU h m
    have h2 := cap_mono (C.getD m 0) _ _ (gS_le ok h (m : Int) L.length (Nat.le_refl _))
    simp only [gV, hT.1, hU.1]
    omega
theorem set_len (T : List Int) (a : Nat) (v : Int) : (T.set a v).length = T.length := List.length_set
theorem getD_set (T : List Int) (a i : Nat) (v : Int) (ha : a < T.length) : (T.set a v).getD i 0 = if i = a then v else T.getD i 0 := by
  rw [List.getD_eq_getElem?_getD, List.getD_eq_getElem?_getD, List.getElem?_set]
  by_cases h : a = i
  · subst h; rw [if_pos rfl, if_pos ha, if_pos rfl]; rfl
  · rw [if_neg h, if_neg (fun e => h e.symm)]
/-- More by d of one. -/
theorem gS_set (L : List S47) (T : List Int) (a : Nat) (d : Int) (ha : a < T.length) (g : Int) : ∀ i : Nat, gS L (T.set a (T.getD a 0 + d)) g i = gS L T g i + (if a < i ∧ (lt L a).f3 = g then d * (lt L a).f1 else 0)
  | 0 => by simp [gS]
  | i + 1 => by
    simp only [gS]
    rw [gS_set L T a d ha g i, getD_set T a i _ ha]
    by_cases h : i = a
    · subst h
      rw [if_pos rfl, if_neg (by omega)]
      by_cases hg : (lt L i).f3 = g
      · rw [if_pos hg, if_pos hg, if_pos ⟨by omega, hg⟩, Int.add_mul]; omega
      · rw [if_neg hg, if_neg hg, if_neg (fun x => hg x.2)]
    · rw [if_neg h]
      have e : (a < i + 1 ∧ (lt L a).f3 = g) ↔ (a < i ∧ (lt L a).f3 = g) := by constructor <;> rintro ⟨x, y⟩ <;> exact ⟨by omega, y⟩
      by_cases hg : a < i ∧ (lt L a).f3 = g
      · rw [if_pos hg, if_pos (e.2 hg)]; omega
      · rw [if_neg hg, if_neg (fun x => hg (e.1 x))]; omega
theorem gK_set (L : List S47) (T : List Int) (a : Nat) (d : Int) (ha : a < T.length) : ∀ i : Nat, gK L (T.set a (T.getD a 0 + d)) i = gK L T i + (if a < i then d * (lt L a).f2 else 0)
  | 0 => by simp [gK]
  | i + 1 => by
    simp only [gK]
    rw [gK_set L T a d ha i, getD_set T a i _ ha]
    by_cases h : i = a
    · subst h
      rw [if_pos rfl, if_neg (by omega), if_pos (by omega), Int.add_mul]; omega
    · rw [if_neg h]
      by_cases hg : a < i
      · rw [if_pos hg, if_pos (by omega)]; omega
      · rw [if_neg hg, if_neg (by omega)]; omega
theorem gV_set (L : List S47) (C T : List Int) (a : Nat) (ha : a < T.length) (hv : 0 ≤ (lt L a).f1) : ∀ m : Nat, gV L C T m ≤ gV L C (T.set a (T.getD a 0 + 1)) m ∧ gV L C (T.set a (T.getD a 0 + 1)) m ≤ gV L C T m + (if (lt L a).f3 < (m : Int) ∧ 0 ≤ (lt L a).f3 then (lt L a).f1 else 0)
  | 0 => by simp only [gV]; split <;> omega
  | m + 1 => by
    have ih := gV_set L C T a ha hv m
    simp only [gV]
    rw [set_len, gS_set L T a 1 ha]
    by_cases hg : (lt L a).f3 = (m : Int)
    · rw [if_pos ⟨ha, hg⟩, if_pos (by omega)]
      rw [if_neg (by omega)] at ih
      have := cap_le (C.getD m 0) (gS L T m T.length) (1 * (lt L a).f1) (by omega)
      omega
    · rw [if_neg (fun x => hg x.2), Int.add_zero]
      by_cases h2 : (lt L a).f3 < (m : Int) ∧ 0 ≤ (lt L a).f3
      · rw [if_pos h2] at ih; rw [if_pos (by omega)]; omega
      · rw [if_neg h2] at ih; rw [if_neg (by omega)]; omega
/-- Without caps. -/
theorem gV_free (L : List S47) (C T : List Int) (hC : ∀ j : Nat, C.getD j 0 ≤ 0) (a : Nat) (ha : a < T.length) : ∀ m : Nat, gV L C (T.set a (T.getD a 0 + 1)) m = gV L C T m + (if (lt L a).f3 < (m : Int) ∧ 0 ≤ (lt L a).f3 then (lt L a).f1 else 0)
  | 0 => by simp only [gV]; rw [if_neg (by omega)]; rfl
  | m + 1 => by
    have ih := gV_free L C T hC a ha m
    have e : ∀ s, cap1 (C.getD m 0) s = s := fun s => by unfold cap1; rw [if_neg (by have := hC m; omega)]
    simp only [gV, e]
    rw [set_len, gS_set L T a 1 ha]
    by_cases hg : (lt L a).f3 = (m : Int)
    · rw [if_neg (show ¬ ((lt L a).f3 < (m : Int) ∧ 0 ≤ (lt L a).f3) by omega)] at ih
      rw [if_pos (show a < T.length ∧ (lt L a).f3 = (m : Int) from ⟨ha, hg⟩), if_pos (by omega)]; omega
    · rw [if_neg (show ¬ (a < T.length ∧ (lt L a).f3 = (m : Int)) from fun x => hg x.2)]
      by_cases h2 : (lt L a).f3 < (m : Int) ∧ 0 ≤ (lt L a).f3
      · rw [if_pos h2] at ih; rw [if_pos (by omega)]; omega
      · rw [if_neg h2] at ih; rw [if_neg (by omega)]; omega
/-- Free of caps it is worth no less. -/
theorem gV_caps (L : List S47) (C F T : List Int) (hF : ∀ j : Nat, F.getD j 0 ≤ 0) (hS : ∀ g : Int, 0 ≤ gS L T g T.length) : ∀ m : Nat, gV L C T m ≤ gV L F T m
  | 0 => by simp [gV]
  | m + 1 => by
    have ih := gV_caps L C F T hF hS m
    have e : cap1 (F.getD m 0) (gS L T m T.length) = gS L T m T.length := by unfold cap1; rw [if_neg (by have := hF m; omega)]
    have := (cap_bd (C.getD m 0) _ (hS m)).2
    simp only [gV, e]
    omega
theorem w64m (n : Int) (h0 : -1000000000000000 ≤ n) (h1 : n ≤ 1000000000000000) : wrap64 n = n := by unfold wrap64; omega
theorem rd_nat' (l : List Int) (i : Nat) : rd l (i : Int) = l.getD i 0 := by unfold rd; rw [Int.toNat_natCast]
theorem wn (i : Nat) (h : i ≤ 1000000) : wrap64 ((i : Int) + 1) = ((i + 1 : Nat) : Int) := by unfold wrap64; omega
/-- The sums of all groups, of the first i lots. -/
def sm (L : List S47) (T : List Int) (m i : Nat) : List Int := (List.range m).map (fun g : Nat => gS L T (g : Int) i)
theorem sm_len (L : List S47) (T : List Int) (m i : Nat) : (sm L T m i).length = m := by unfold sm; rw [List.length_map, List.length_range]
theorem sm_get (L : List S47) (T : List Int) (m i g : Nat) (h : g < m) : (sm L T m i).getD g 0 = gS L T (g : Int) i := by
  unfold sm; rw [List.getD_eq_getElem?_getD, List.getElem?_map, List.getElem?_range h]; rfl
theorem sm_elem (L : List S47) (T : List Int) (m i j : Nat) (h : j < (sm L T m i).length) : (sm L T m i)[j] = gS L T (j : Int) i := by simp [sm]
theorem sm_zero (L : List S47) (T : List Int) (m : Nat) : List.replicate m (0 : Int) = sm L T m 0 := by
  apply List.ext_getElem
  · rw [List.length_replicate, sm_len]
  · intro j h1 h2
    rw [List.getElem_replicate, sm_elem]; rfl
theorem sm_step (L : List S47) (T : List Int) (m i g : Nat) (v : Int) (hg : (lt L i).f3 = (g : Int)) (hm : g < m) (hv : v = gS L T (g : Int) i + T.getD i 0 * (lt L i).f1) : (sm L T m i).set g v = sm L T m (i + 1) := by
  apply List.ext_getElem
  · rw [List.length_set, sm_len, sm_len]
  · intro j h1 h2
    rw [List.getElem_set, sm_elem, sm_elem]
    simp only [gS]
    by_cases h : g = j
    · subst h; rw [if_pos rfl, if_pos hg, hv]
    · rw [if_neg h, if_neg (by omega), Int.add_zero]
/-- A problem that may be. -/
structure OkP (L : List S47) (C : List Int) : Prop where
  l8 : L.length ≤ 8
  lots : ∀ x ∈ L, okL x
  grp : ∀ x ∈ L, 0 ≤ x.f3 ∧ x.f3 < (C.length : Int)
  c8 : C.length ≤ 8
theorem w_l0 {L : List S47} {C T : List Int} (P : OkP L C) (hT : okT L T) (N : Int) : ∀ (d i k : Nat), i + d = L.length → lots_worth.l0 (k + d + 1) (sm L T C.length i) T (T.length : Int) (i : Int) L C N = lots_worth.l1 k 0 (sm L T C.length L.length) (C.length : Int) 0 L C N
  | 0, i, k, h => by
    obtain rfl : i = L.length := by omega
    simp only [Nat.add_zero, lots_worth.l0]
    rw [if_neg (by rw [hT.1]; omega), sm_len]
  | d + 1, i, k, h => by
    have ih := w_l0 P hT N d (i + 1) k (by omega)
    have hT1 := hT.1
    have hl8 := P.l8
    have hi : i < L.length := by omega
    obtain ⟨q1, q2⟩ := P.grp _ (lt_mem L i hi)
    obtain ⟨g, hg⟩ := Int.eq_ofNat_of_zero_le q1
    have hgC : g < C.length := by omega
    have b1 := gS_bd P.lots hT (g : Int) i (by omega)
    have b2 := pr_bd P.lots hT i hi
    obtain ⟨K, hK⟩ : ∃ K, K = k + d + 1 := ⟨_, rfl⟩
    rw [← hK] at ih
    rw [show k + (d + 1) + 1 = K + 1 by omega]
    have ew1 : wrap64 (T.getD i 0 * (lt L i).f1) = T.getD i 0 * (lt L i).f1 := w64m _ (by omega) (by omega)
    have ew2 : wrap64 (gS L T (g : Int) i + T.getD i 0 * (lt L i).f1) = gS L T (g : Int) i + T.getD i 0 * (lt L i).f1 := w64m _ (by omega) (by omega)
    simp only [lots_worth.l0]
    rw [if_pos (by omega), if_pos (by omega), if_pos (by omega), if_pos (by omega), rd_lt, hg, if_pos (by omega), sm_len, if_pos (by omega), rd_nat', rd_nat', sm_get _ _ _ _ _ hgC, ew1, ew2, Int.toNat_natCast, sm_step L T C.length i g _ hg hgC rfl, wn i (by omega), ih]
theorem w_l1 {L : List S47} {C T : List Int} (P : OkP L C) (hT : okT L T) (N : Int) : ∀ (d j k : Nat), j + d = C.length → lots_worth.l1 (k + d + 1) (gV L C T j) (sm L T C.length L.length) (C.length : Int) (j : Int) L C N = some (gW L C T)
  | 0, j, k, h => by
    obtain rfl : j = C.length := by omega
    simp only [Nat.add_zero, lots_worth.l1]
    rw [if_neg (by omega)]
    rfl
  | d + 1, j, k, h => by
    have ih := w_l1 P hT N d (j + 1) k (by omega)
    have hj : j < C.length := by omega
    have hT1 := hT.1
    have hc8 := P.c8
    have hl8 := P.l8
    have b1 := gV_bd (C := C) P.lots hT hl8 j
    have b3 := gS_bd P.lots hT (j : Int) L.length (by omega)
    have b2 := cap_bd (C.getD j 0) _ b3.1
    obtain ⟨K, hK⟩ : ∃ K, K = k + d + 1 := ⟨_, rfl⟩
    rw [← hK] at ih
    rw [show k + (d + 1) + 1 = K + 1 by omega]
    simp only [lots_worth.l1]
    rw [if_pos (by omega), if_pos (by omega), sm_len, if_pos (by omega), if_pos (by omega), rd_nat', rd_nat', sm_get _ _ _ _ _ hj, wn j (by omega)]
    have e : gV L C T (j + 1) = gV L C T j + cap1 (C.getD j 0) (gS L T (j : Int) L.length) := by simp only [gV]; rw [hT1]
    by_cases hc : C.getD j 0 > 0
    · have e2 : cap1 (C.getD j 0) (gS L T (j : Int) L.length) = mn (gS L T (j : Int) L.length) (C.getD j 0) := if_pos hc
      rw [if_pos hc, ← e2, ← e, w64m _ (by omega) (by omega), ih]
    · have e2 : cap1 (C.getD j 0) (gS L T (j : Int) L.length) = gS L T (j : Int) L.length := if_neg hc
      rw [if_neg hc]
      rw [e2] at e b2
      rw [← e, w64m _ (by omega) (by omega), ih]
theorem worth_g {L : List S47} {C T : List Int} (P : OkP L C) (hT : okT L T) (N : Int) (k : Nat) (hk : 20 < k) : lots_worth.f k L C N T = some (gW L C T) := by
  have hc8 := P.c8
  have hl8 := P.l8
  unfold lots_worth.f
  rw [if_pos (by omega), if_pos (by omega), Int.toNat_natCast, sm_zero L T]
  obtain ⟨k1, rfl⟩ : ∃ m, k = m + L.length + 1 := ⟨k - L.length - 1, by omega⟩
  have h0 := w_l0 P hT N L.length 0 k1 (by omega)
  rw [show ((0 : Nat) : Int) = 0 from rfl] at h0
  rw [h0]
  obtain ⟨k2, rfl⟩ : ∃ m, k1 = m + C.length + 1 := ⟨k1 - C.length - 1, by omega⟩
  exact w_l1 P hT N C.length 0 k2 (by omega)
/-- Is each of d places from i on within? -/
def fb (L : List S47) (T : List Int) : Nat → Nat → Bool
  | _, 0 => true
  | i, d + 1 => decide (0 ≤ T.getD i 0 ∧ T.getD i 0 ≤ (lt L i).f0) && fb L T (i + 1) d
theorem fb_iff (L : List S47) (T : List Int) : ∀ (d i : Nat), fb L T i d = true ↔ ∀ j : Nat, i ≤ j → j < i + d → 0 ≤ T.getD j 0 ∧ T.getD j 0 ≤ (lt L j).f0
  | 0, i => by simp only [fb, true_iff]; intro j _ _; omega
  | d + 1, i => by
    simp only [fb, Bool.and_eq_true, decide_eq_true_eq, fb_iff L T d (i + 1)]
    constructor
    · rintro ⟨h1, h2⟩ j hj hj2
      by_cases h : j = i
      · subst h; exact h1
      · exact h2 j (by omega) (by omega)
    · intro h
      exact ⟨h i (Nat.le_refl _) (by omega), fun j hj hj2 => h j (by omega) (by omega)⟩
theorem f_l0 (L : List S47) (C T : List Int) (hL : L.length ≤ 8) (hT : T.length = L.length) (N : Int) : ∀ (d i k : Nat), i + d = L.length → lots_fits.l0 (k + d + 1) T (T.length : Int) (i : Int) L C N = some (fb L T i d)
  | 0, i, k, h => by
    simp only [Nat.add_zero, lots_fits.l0, fb]
    rw [if_neg (by omega)]
  | d + 1, i, k, h => by
    have ih := f_l0 L C T hL hT N d (i + 1) k (by omega)
    obtain ⟨K, hK⟩ : ∃ K, K = k + d + 1 := ⟨_, rfl⟩
    rw [← hK] at ih
    rw [show k + (d + 1) + 1 = K + 1 by omega]
    simp only [lots_fits.l0, fb]
    rw [if_pos (by omega), if_pos (by omega), if_pos (by omega), rd_nat', rd_lt]
    by_cases h1 : T.getD i 0 < 0
    · rw [if_pos h1, decide_eq_false (by omega)]; rfl
    · rw [if_neg h1, if_pos (by omega)]
      by_cases h2 : T.getD i 0 > (lt L i).f0
      · rw [if_pos h2, decide_eq_false (by omega)]; rfl
      · rw [if_neg h2, decide_eq_true (by omega), wn i (by omega), ih]; rfl
def fitB (L : List S47) (T : List Int) : Bool := decide (T.length = L.length) && fb L T 0 L.length
theorem fitB_iff (L : List S47) (T : List Int) : fitB L T = true ↔ okT L T := by
  unfold fitB okT
  rw [Bool.and_eq_true, decide_eq_true_eq, fb_iff]
  constructor
  · rintro ⟨a, b⟩; exact ⟨a, fun i hi => b i (Nat.zero_le _) (by omega)⟩
  · rintro ⟨a, b⟩; exact ⟨a, fun i _ hi => b i (by omega)⟩
theorem fits_g {L : List S47} {C : List Int} {N : Int} (hV : lots_Valid.f L C N = some none) (T : List Int) (k : Nat) (hk : 20 < k) : lots_fits.f k L C N T = some (fitB L T) := by
  have hL := (Valid_none hV).1
  unfold lots_fits.f
  rw [hV]
  simp only [Option.bind_some, Option.isNone_none]
  rw [if_pos trivial]
  obtain ⟨k1, rfl⟩ : ∃ m, k = m + 1 := ⟨k - 1, by omega⟩
  simp only [lots_fits.j0]
  unfold fitB
  by_cases h : T.length = L.length
  · have e : ((T.length : Int) != (L.length : Int)) = false := by rw [h]; simp
    rw [e, decide_eq_true h]
    simp only [Bool.false_eq_true, if_false, Bool.true_and]
    obtain ⟨k2, rfl⟩ : ∃ m, k1 = m + L.length + 1 := ⟨k1 - L.length - 1, by omega⟩
    exact f_l0 L C T (by omega) h N L.length 0 k2 (by omega)
  · have e : ((T.length : Int) != (L.length : Int)) = true := by rw [bne_iff_ne]; omega
    rw [e, decide_eq_false h]
    rfl
theorem okP_of {L : List S47} {C : List Int} {N : Int} (hV : lots_Valid.f L C N = some none) : OkP L C := by
  obtain ⟨a, b, c, _⟩ := Valid_none hV
  exact ⟨by omega, fun x hx => (b x hx).1, fun x hx => (b x hx).2, by omega⟩
theorem Worth_g {L : List S47} {C : List Int} {N : Int} (hV : lots_Valid.f L C N = some none) (T : List Int) (k : Nat) (hk : 20 < k) : lots_Worth.f k L C N T = some (if fitB L T = true then (gW L C T, true) else (0, false)) := by
  unfold lots_Worth.f
  rw [fits_g hV T k hk, Option.bind_some]
  by_cases h : fitB L T = true
  · rw [if_pos h, if_pos h, worth_g (okP_of hV) ((fitB_iff L T).1 h) N k hk]; rfl
  · rw [if_neg h, if_neg h]
theorem Worth_ok {L : List S47} {C : List Int} {N : Int} (hV : lots_Valid.f L C N = some none) {T : List Int} (hT : okT L T) (k : Nat) (hk : 20 < k) : lots_Worth.f k L C N T = some (gW L C T, true) := by
  rw [Worth_g hV T k hk, if_pos ((fitB_iff L T).2 hT)]
theorem Fits_g {L : List S47} {C : List Int} {N : Int} (hV : lots_Valid.f L C N = some none) {T : List Int} (hT : okT L T) (k : Nat) (hk : 20 < k) : lots_Fits.f k L C N T = some (decide (gW L C T ≥ N)) := by
  unfold lots_Fits.f
  rw [Worth_ok hV hT k hk]
  rfl
theorem set_back (T : List Int) (j : Nat) (v : Int) (hj : j < T.length) : (T.set j v).set j (T.getD j 0) = T := by
  rw [List.set_set, List.getD_eq_getElem?_getD, List.getElem?_eq_getElem hj]
  exact List.set_getElem_self hj
theorem ok_set {L : List S47} {T : List Int} (hT : okT L T) (j : Nat) (v : Int) (hj : j < L.length) (h0 : 0 ≤ v) (h1 : v ≤ (lt L j).f0) : okT L (T.set j v) := by
  refine ⟨by rw [set_len]; exact hT.1, fun i hi => ?_⟩
  rw [getD_set T j i v (by rw [hT.1]; exact hj)]
  by_cases h : i = j
  · subst h; rw [if_pos rfl]; exact ⟨h0, h1⟩
  · rw [if_neg h]; exact hT.2 i hi
theorem c_l0 {L : List S47} {C T : List Int} (P : OkP L C) (hT : okT L T) (N : Int) : ∀ (d i k : Nat), i + d = L.length → lots_Cost.l0 (k + d + 1) (gK L T i) T (T.length : Int) (i : Int) L C N = some (gK L T L.length, true)
  | 0, i, k, h => by
    obtain rfl : i = L.length := by omega
    have hT1 := hT.1
    simp only [Nat.add_zero, lots_Cost.l0]
    rw [if_neg (by omega)]
  | d + 1, i, k, h => by
    have ih := c_l0 P hT N d (i + 1) k (by omega)
    have hT1 := hT.1
    have hl8 := P.l8
    have hi : i < L.length := by omega
    have b1 := gK_bd P.lots hT i (by omega)
    have b2 := pk_bd P.lots hT i hi
    have ew1 : wrap64 (T.getD i 0 * (lt L i).f2) = T.getD i 0 * (lt L i).f2 := w64m _ (by omega) (by omega)
    have ew2 : wrap64 (gK L T i + T.getD i 0 * (lt L i).f2) = gK L T (i + 1) := w64m _ (by omega) (by omega)
    obtain ⟨K, hK⟩ : ∃ K, K = k + d + 1 := ⟨_, rfl⟩
    rw [← hK] at ih
    rw [show k + (d + 1) + 1 = K + 1 by omega]
    simp only [lots_Cost.l0]
    rw [if_pos (by omega), if_pos (by omega), if_pos (by omega), if_pos (by omega), rd_lt, rd_nat', ew1, ew2, wn i (by omega), ih]
theorem Cost_g {L : List S47} {C : List Int} {N : Int} (hV : lots_Valid.f L C N = some none) {T : List Int} (hT : okT L T) (k : Nat) (hk : 20 < k) : lots_Cost.f k L C N T = some (gK L T L.length, true) := by
  have hl8 := (okP_of hV).l8
  unfold lots_Cost.f
  rw [fits_g hV T k hk, Option.bind_some, if_pos ((fitB_iff L T).2 hT)]
  obtain ⟨k1, rfl⟩ : ∃ m, k = m + L.length + 1 := ⟨k - L.length - 1, by omega⟩
  exact c_l0 (okP_of hV) hT N L.length 0 k1 (by omega)
theorem Cost_f {L : List S47} {C : List Int} {N : Int} (hV : lots_Valid.f L C N = some none) (T : List Int) (k : Nat) (hk : 20 < k) : lots_Cost.f k L C N T = some (if fitB L T = true then (gK L T L.length, true) else (0, false)) := by
  by_cases h : fitB L T = true
  · rw [if_pos h]; exact Cost_g hV ((fitB_iff L T).1 h) k hk
  · rw [if_neg h]
    unfold lots_Cost.f
    rw [fits_g hV T k hk, Option.bind_some, if_neg h]
/-- What is amiss with a choice, of a problem that may be. -/
def chkF (L : List S47) (C : List Int) (N : Int) (T : List Int) (w c : Int) : Option Int := if fitB L T = true then (if gW L C T = w then (if gK L T L.length = c then (if w < N then some 115 else none) else some 102) else some 102) else some 102
theorem Check_g {L : List S47} {C : List Int} {N : Int} (hV : lots_Valid.f L C N = some none) (T : List Int) (w c : Int) (b : Bool) (n : Int) (k : Nat) (hk : 20 < k) : cert_Check.f k L C N T w c b n = some (chkF L C N T w c) := by
  unfold cert_Check.f chkF
  rw [hV, Option.bind_some, Worth_g hV T k hk, Cost_f hV T k hk]
  simp only [Option.isNone_none]
  obtain ⟨k, rfl⟩ : ∃ m, k = m + 1 := ⟨k - 1, by omega⟩
  rw [if_pos trivial, Option.bind_some, Option.bind_some]
  by_cases h : fitB L T = true
  · rw [if_pos h, if_pos h, if_pos h]
    simp only []
    rw [if_pos trivial]
    by_cases h1 : gW L C T = w
    · rw [if_pos h1, if_pos h1]
      simp only [cert_Check.j0]
      by_cases h2 : gK L T L.length = c
      · rw [if_pos h2, h2, h1]; simp
        split <;> rfl
      · rw [if_neg h2, if_pos (by rw [bne_iff_ne]; exact h2)]
    · rw [if_neg h1, if_neg h1]
      simp only [cert_Check.j0]; rw [if_pos trivial]
  · rw [if_neg h, if_neg h, if_neg h]
    simp only []
    rw [if_neg (by simp)]
    simp only [cert_Check.j0]; rw [if_pos trivial]
abbrev L1 : List S47 := [(⟨3, 5, 2, 0⟩ : S47)]
theorem V1 : lots_Valid.f L1 [0] 6 = some none := by rfl
theorem F1 (a : Int) (h : fitB L1 [a] = true) (k : Nat) (hk : 20 < k) : lots_Fits.f k L1 [0] 6 [a] = some (decide (gW L1 [0] [a] ≥ 6)) := Fits_g V1 ((fitB_iff L1 [a]).1 h) k hk
theorem sw2 (k : Nat) (hk : 30 < k) : cert_Swap.f k L1 [0] 6 [2] = some ([], false) := by
  unfold cert_Swap.f
  rw [F1 2 rfl k (by omega), Option.bind_some, if_pos (by rfl)]
  show cert_Swap.l0 k [2] 1 0 L1 [0] 6 = _
  obtain ⟨k, rfl⟩ : ∃ m, k = m + 1 := ⟨k - 1, by omega⟩
  obtain ⟨j, hj⟩ : ∃ m, k = m + 1 := ⟨k - 1, by omega⟩
  have he : cert_Swap.l0 k [2] 1 1 L1 [0] 6 = some ([], false) := by rw [hj]; simp [cert_Swap.l0]
  have hw : wrap64 (rd [2] 0 - 1) = 1 := by show wrap64 (2 - 1) = 1; unfold wrap64; omega
  have hw1 : wrap64 (0 + 1) = 1 := by unfold wrap64; omega
  simp only [cert_Swap.l0]
  rw [if_pos (by omega), show slices_Clone_int_int.f [2] = some [2] from rfl, Option.bind_some, if_pos (by omega), if_pos (by simp), hw, Option.bind_some]
  show (lots_Fits.f k L1 [0] 6 [1]).bind _ = _
  rw [F1 1 rfl k (by omega), Option.bind_some, if_neg (by decide), hw1]
  exact he
theorem sw3 (k : Nat) (hk : 30 < k) : cert_Swap.f k L1 [0] 6 [3] = some ([2], true) := by
  unfold cert_Swap.f
  rw [F1 3 rfl k (by omega), Option.bind_some, if_pos (by rfl)]
  show cert_Swap.l0 k [3] 1 0 L1 [0] 6 = _
  obtain ⟨k, rfl⟩ : ∃ m, k = m + 1 := ⟨k - 1, by omega⟩
  have hw : wrap64 (rd [3] 0 - 1) = 2 := by show wrap64 (3 - 1) = 2; unfold wrap64; omega
  simp only [cert_Swap.l0]
  rw [if_pos (by omega), show slices_Clone_int_int.f [3] = some [3] from rfl, Option.bind_some, if_pos (by omega), if_pos (by simp), hw, Option.bind_some]
  show (lots_Fits.f k L1 [0] 6 [2]).bind _ = _
  rw [F1 2 rfl k (by omega), Option.bind_some, if_pos (by rfl)]
  rfl
theorem first_eq (k : Nat) (hk : 100 < k) : pledgelaw21_first.f k = some true := by
  unfold pledgelaw21_first.f
  rw [Option.bind_some, Option.bind_some, sw2 k (by omega), Option.bind_some, sw3 k (by omega), Option.bind_some]
  rfl
abbrev L2 : List S47 := [(⟨5, 4, 3, 0⟩ : S47), (⟨2, 9, 1, 1⟩ : S47)]
theorem V2 : lots_Valid.f L2 [0, 10] 20 = some none := by rfl
theorem V2n : lots_Valid.f L2 [] 20 = some (some 105) := by rfl
theorem Gap_some (L : List S47) (C : List Int) (N : Int) (T : List Int) (w c : Int) (b : Bool) (n e : Int) (k : Nat) (h : cert_Check.f k L C N T w c b n = some (some e)) : cert_Gap.f k L C N T w c b n = some (0, some e) := by
  unfold cert_Gap.f
  rw [h, Option.bind_some, if_neg (by simp)]
  rfl
theorem law_j0 (L : List S47) (C : List Int) (N : Int) (T : List Int) (w c e : Int) (he : e = 102 ∨ e = 105 ∨ e = 115) (k : Nat) (h : cert_Check.f k L C N T w c false 0 = some (some e)) : pledgelaw21_CertWrong.j0 (k + 1) true e L C N T w c false 0 = some true := by
  have hi : pledgesee_Is.f (some e) e = some true := by rcases he with rfl | rfl | rfl <;> rfl
  simp only [pledgelaw21_CertWrong.j0]
  rw [Gap_some L C N T w c false 0 e k h, Option.bind_some, if_pos trivial, h, Option.bind_some, hi, Option.bind_some, if_pos rfl]
  rfl
end Go.Proofs.YteooecifecaikaaDoor.PrCertWrong
namespace Go.Proofs.YteooecifecaikaaDoor.Pr
open Go.RowKit Go.Proofs.YteooecifecaikaaDoor.ECertWrong Go.Proofs.YteooecifecaikaaDoorW.PrintWords Go.Proofs.YteooecifecaikaaDoorW.PrintLast Go.Proofs.YteooecifecaikaaDoorW.PrintMore Go.Proofs.YteooecifecaikaaDoorW.PrintOpen Go.Proofs.YteooecifecaikaaDoor.PrCertWrong
theorem CertWrong : pledgelaw21_CertWrong.Pure := by
  intro a0 _
  obtain ⟨k, hk⟩ : ∃ k : Nat, 200 < k := ⟨201, by omega⟩
  refine ⟨k + 1, ?_⟩
  unfold pledgelaw21_CertWrong.f
  rw [first_eq (k + 1) (by omega), Option.bind_some, if_pos rfl, Option.bind_some, Option.bind_some, Option.bind_some, Check_g V2 _ _ _ _ _ (k + 1) (by omega), Option.bind_some]
  rw [if_pos (by rfl), number_eq a0 6 (by omega) (by omega), Option.bind_some]
  by_cases h0 : a0 % 6 = 0
  · rw [if_pos h0]; exact law_j0 _ _ _ _ _ _ _ (by omega) k (by rw [Check_g V2 _ _ _ _ _ k (by omega)]; rfl)
  rw [if_neg h0]
  by_cases h1 : a0 % 6 = 1
  · rw [if_pos h1]; exact law_j0 _ _ _ _ _ _ _ (by omega) k (by rw [Check_g V2 _ _ _ _ _ k (by omega)]; rfl)
  rw [if_neg h1]
  by_cases h2 : a0 % 6 = 2
  · rw [if_pos h2]; exact law_j0 _ _ _ _ _ _ _ (by omega) k (by rw [Check_g V2 _ _ _ _ _ k (by omega)]; rfl)
  rw [if_neg h2]
  by_cases h3 : a0 % 6 = 3
  · rw [if_pos h3]; exact law_j0 _ _ _ _ _ _ _ (by omega) k (by rw [Check_g V2 _ _ _ _ _ k (by omega)]; rfl)
  rw [if_neg h3]
  by_cases h4 : a0 % 6 = 4
  · rw [if_pos h4]; exact law_j0 _ _ _ _ _ _ _ (by omega) k (by rw [Check_g V2 _ _ _ _ _ k (by omega)]; rfl)
  rw [if_neg h4]
  exact law_j0 _ _ _ _ _ _ _ (by omega) k (by unfold cert_Check.f; rw [V2n, Option.bind_some, if_neg (by simp)]; rfl)
end Go.Proofs.YteooecifecaikaaDoor.Pr
