/- Of any problem: whether it may be, what any take of it is worth, costs, whether it fits, what all is worth, the greedy take, are what the chapter says: the pure statement of LotsSay, for all numbers. Conditions: none beyond the statement's own. -/
import Derived.Test.YtlalofmilhakjaaDoorELotsSayx
import Derived.Test.YtlalofmilhakjaaDoorOpen
namespace Go.Proofs.YtlalofmilhakjaaDoor.PrLotsSay
open Go.RowKit Go.Proofs.YtlalofmilhakjaaDoor.ELotsSay Go.Proofs.YtlalofmilhakjaaDoorW.PrintWords Go.Proofs.YtlalofmilhakjaaDoorW.PrintLast Go.Proofs.YtlalofmilhakjaaDoorW.PrintMore Go.Proofs.YtlalofmilhakjaaDoorW.PrintOpen
set_option linter.unusedSimpArgs false
set_option linter.unusedVariables false
theorem w64 (x : Int) (h1 : -9223372036854775808 ≤ x) (h2 : x ≤ 9223372036854775807) : wrap64 x = x := by unfold wrap64; omega
theorem w64s (x : Int) (h1 : -1000000000 ≤ x) (h2 : x ≤ 1000000000) : wrap64 x = x := by unfold wrap64; omega
theorem wu64 (n : Int) : IntKind.u64.wrap n = n % 18446744073709551616 := by simp [IntKind.wrap, IntKind.bits, IntKind.signed]
theorem and32 (x : Int) (h0 : 0 ≤ x) (h1 : x < 18446744073709551616) : Go.bits .and .u64 x 4294967295 = x % 4294967296 := by
 have := bits_mask .u64 64 (by decide) (fun n a b => by rw [wu64]; omega) 32 (by decide) x h0 (by omega)
 simpa using this
theorem pb (x y : Int) (hx : 0 ≤ x) (hx1 : x < 4294967296) (hy : 0 ≤ y) (hy1 : y < 4294967296) : 0 ≤ x * y ∧ x * y ≤ 18446744065119617025 := by
 refine ⟨Int.mul_nonneg hx hy, ?_⟩
 have := Int.mul_le_mul (show x ≤ 4294967295 by omega) (show y ≤ 4294967295 by omega) hy (by omega)
 omega
theorem split32 (a b : Int) : a * b = (a / 4294967296) * (b / 4294967296) * 18446744073709551616 + ((a / 4294967296) * (b % 4294967296) + (a % 4294967296) * (b / 4294967296)) * 4294967296 + (a % 4294967296) * (b % 4294967296) := by
 have h1 : a = (a / 4294967296) * 4294967296 + a % 4294967296 := by omega
 have h2 : b = (b / 4294967296) * 4294967296 + b % 4294967296 := by omega
 generalize a / 4294967296 = a1 at *
 generalize a % 4294967296 = a0 at *
 generalize b / 4294967296 = b1 at *
 generalize b % 4294967296 = b0 at *
 subst h1 h2
 grind
theorem Wide_eq (a b : Int) (ha0 : 0 ≤ a) (ha1 : a < 18446744073709551616) (hb0 : 0 ≤ b) (hb1 : b < 18446744073709551616) :
  fix_Wide.f a b = some (a * b / 18446744073709551616, a * b % 18446744073709551616) := by
 unfold fix_Wide.f
 simp only [wu64, and32 a ha0 ha1, and32 b hb0 hb1]
 have e := split32 a b
 obtain ⟨q1, q2⟩ := pb (a / 4294967296) (b / 4294967296) (by omega) (by omega) (by omega) (by omega)
 obtain ⟨q3, q4⟩ := pb (a / 4294967296) (b % 4294967296) (by omega) (by omega) (by omega) (by omega)
 obtain ⟨q5, q6⟩ := pb (a % 4294967296) (b / 4294967296) (by omega) (by omega) (by omega) (by omega)
 obtain ⟨q7, q8⟩ := pb (a % 4294967296) (b % 4294967296) (by omega) (by omega) (by omega) (by omega)
 generalize a / 4294967296 * (b / 4294967296) = p11 at *
 generalize a / 4294967296 * (b % 4294967296) = p10 at *
 generalize a % 4294967296 * (b / 4294967296) = p01 at *
 generalize a % 4294967296 * (b % 4294967296) = p00 at *
 generalize a * b = p at *
 rw [and32 _ (by omega) (by omega)]
 congr 2
 omega
/-- A number of 64 bits with a sign. -/
def In64 (n : Int) : Prop := -9223372036854775808 ≤ n ∧ n ≤ 9223372036854775807
instance (n : Int) : Decidable (In64 n) := by unfold In64; infer_instance
theorem size_eq (a : Int) (h : In64 a) : fix_size.f a = some (if a < 0 then -a else a, decide (a < 0)) := by
 obtain ⟨h0, h1⟩ := h
 unfold fix_size.f
 by_cases hn : a < 0
 ·
  rw [if_pos hn, if_pos hn, decide_eq_true hn, wu64, wu64]
  have : -(a % 18446744073709551616) % 18446744073709551616 = -a := by omega
  rw [this]
 ·
  rw [if_neg hn, if_neg hn, decide_eq_false hn, wu64]
  have : a % 18446744073709551616 = a := by omega
  rw [this]
theorem abs_mul (a b : Int) : (if a < 0 then -a else a) * (if b < 0 then -b else b) = if (a < 0) ≠ (b < 0) then -(a * b) else a * b := by
 by_cases h1 : a < 0 <;> by_cases h2 : b < 0 <;> simp [h1, h2] <;> grind
theorem u64_nat (a b : Nat) (ha : a < 2 ^ 64) (hb : b < 2 ^ 64) : Go.bits .and .u64 a b = ((a &&& b : Nat) : Int) ∧ Go.bits .or .u64 a b = ((a ||| b : Nat) : Int) :=
 bits_nat .u64 64 (by decide) (fun n a b => by rw [wu64]; omega) a b ha hb
theorem or32 (x y : Int) (hx : 0 ≤ x) (hx1 : x < 4294967296) (hy : 0 ≤ y) (hy1 : y < 4294967296) : Go.bits .or .u64 (x * 4294967296) y = x * 4294967296 + y := by
 obtain ⟨a, rfl⟩ := Int.eq_ofNat_of_zero_le hx
 obtain ⟨b, rfl⟩ := Int.eq_ofNat_of_zero_le hy
 have e : (a : Int) * 4294967296 = ((2 ^ 32 * a : Nat) : Int) := by omega
 have hb : b < 2 ^ 32 := by omega
 rw [e, (u64_nat (2 ^ 32 * a) b (by omega) (by omega)).2, ← Nat.two_pow_add_eq_or_of_lt hb a]
 omega
theorem RWide_eq (a b : Int) (ha0 : 0 ≤ a) (ha1 : a < 18446744073709551616) (hb0 : 0 ≤ b) (hb1 : b < 18446744073709551616) :
  pledgeref1_Wide.f a b = some (a * b / 18446744073709551616, a * b % 18446744073709551616) := by
 unfold pledgeref1_Wide.f
 simp only [wu64, and32 a ha0 ha1, and32 b hb0 hb1]
 have e := split32 a b
 obtain ⟨q1, q2⟩ := pb (a / 4294967296) (b / 4294967296) (by omega) (by omega) (by omega) (by omega)
 obtain ⟨q3, q4⟩ := pb (a / 4294967296) (b % 4294967296) (by omega) (by omega) (by omega) (by omega)
 obtain ⟨q5, q6⟩ := pb (a % 4294967296) (b / 4294967296) (by omega) (by omega) (by omega) (by omega)
 obtain ⟨q7, q8⟩ := pb (a % 4294967296) (b % 4294967296) (by omega) (by omega) (by omega) (by omega)
 generalize a / 4294967296 * (b / 4294967296) = p11 at *
 generalize a / 4294967296 * (b % 4294967296) = p10 at *
 generalize a % 4294967296 * (b / 4294967296) = p01 at *
 generalize a % 4294967296 * (b % 4294967296) = p00 at *
 generalize a * b = p at *
 clear ha0 ha1 hb0 hb1
 rw [Int.emod_eq_of_lt q7 (show p00 < 18446744073709551616 by omega), and32 p00 (by omega) (by omega)]
 rw [Int.emod_eq_of_lt (show 0 ≤ p10 by omega) (show p10 < 18446744073709551616 by omega)]
 rw [Int.emod_eq_of_lt (show 0 ≤ p10 + p00 / 4294967296 by omega) (show p10 + p00 / 4294967296 < 18446744073709551616 by omega)]
 rw [and32 (p10 + p00 / 4294967296) (by omega) (by omega)]
 rw [Int.emod_eq_of_lt (show 0 ≤ p01 by omega) (show p01 < 18446744073709551616 by omega)]
 generalize hm : p10 + p00 / 4294967296 = m at *
 rw [Int.emod_eq_of_lt (show 0 ≤ p01 + m % 4294967296 by omega) (show p01 + m % 4294967296 < 18446744073709551616 by omega)]
 generalize hn : p01 + m % 4294967296 = n at *
 have en : n * 4294967296 % 18446744073709551616 = n % 4294967296 * 4294967296 := by omega
 rw [en, or32 _ _ (by omega) (by omega) (by omega) (by omega)]
 congr 2
 · omega
 · omega
theorem Rsize_eq (a : Int) (h : In64 a) : pledgeref1_size.f a = some (if a < 0 then -a else a) := by
 obtain ⟨h0, h1⟩ := h
 unfold pledgeref1_size.f
 by_cases hn : a < 0
 ·
  rw [if_pos hn, if_pos hn, w64 (a + 1) (by omega) (by omega), w64 _ (by omega) (by omega), wu64, wu64]
  congr 1; omega
 ·
  rw [if_neg hn, if_neg hn, wu64]
  congr 1; omega
theorem xor_max (x : Int) (h0 : 0 ≤ x) (h1 : x < 18446744073709551616) : Go.bits .xor .u64 IntKind.u64.max x = 18446744073709551615 - x := by
 obtain ⟨n, rfl⟩ := Int.eq_ofNat_of_zero_le h0
 have en : (BitVec.ofInt 64 (n : Int)).toNat = n := by
  rw [BitVec.toNat_ofInt, show ((2 ^ 64 : Nat) : Int) = 18446744073709551616 from rfl]
  omega
 show IntKind.u64.wrap (((BitVec.ofInt 64 IntKind.u64.max) ^^^ (BitVec.ofInt 64 (n : Int))).toNat : Int) = _
 have em : BitVec.ofInt 64 IntKind.u64.max = BitVec.allOnes 64 := rfl
 rw [em, BitVec.allOnes_xor, BitVec.toNat_not, en, wu64]
 omega
/-- Sizes: how far a number is from 0. -/
def ab (a : Int) : Int := if a < 0 then -a else a
theorem ab_bd (a : Int) (h : In64 a) : 0 ≤ ab a ∧ ab a ≤ 9223372036854775808 := by unfold ab; obtain ⟨h0, h1⟩ := h; split <;> omega
theorem ab_mul (a b : Int) : ab a * ab b = if (decide (a < 0) != decide (b < 0)) = true then -(a * b) else a * b := by
 have := abs_mul a b
 unfold ab
 rw [this]
 by_cases h1 : a < 0 <;> by_cases h2 : b < 0 <;> simp [h1, h2]
theorem ab_prod (a b : Int) (ha : In64 a) (hb : In64 b) : 0 ≤ ab a * ab b ∧ ab a * ab b ≤ 85070591730234615865843651857942052864 := by
 obtain ⟨a0, a1⟩ := ab_bd a ha
 obtain ⟨b0, b1⟩ := ab_bd b hb
 refine ⟨Int.mul_nonneg a0 b0, ?_⟩
 have : ab a * ab b ≤ 9223372036854775808 * 9223372036854775808 := Int.mul_le_mul a1 b1 b0 (by omega)
 omega
theorem product_eq (a b : Int) (ha : In64 a) (hb : In64 b) : fix_product.f a b = some (a * b / 18446744073709551616, a * b % 18446744073709551616) := by
 unfold fix_product.f
 have ⟨a0, a1⟩ := ab_bd a ha
 have ⟨b0, b1⟩ := ab_bd b hb
 rw [size_eq a ha, size_eq b hb]
 simp only [Option.bind_some]
 rw [show (if a < 0 then -a else a) = ab a from rfl, show (if b < 0 then -b else b) = ab b from rfl, Wide_eq _ _ a0 (by omega) b0 (by omega)]
 simp only [Option.bind_some]
 have hm := ab_mul a b
 have ⟨p0, p1⟩ := ab_prod a b ha hb
 generalize ab a * ab b = P at *
 have hnb : (decide (a < 0) == decide (b < 0)) = !(decide (a < 0) != decide (b < 0)) := by simp [bne]
 rw [hnb]
 generalize (decide (a < 0) != decide (b < 0)) = neg at *
 clear hnb ha hb a0 a1 b0 b1
 have m0 := Int.emod_nonneg P (show (18446744073709551616 : Int) ≠ 0 by omega)
 have m1 := Int.emod_lt_of_pos P (show (0 : Int) < 18446744073709551616 by omega)
 have q0 : 0 ≤ P / 18446744073709551616 := by omega
 have q1 : P / 18446744073709551616 ≤ 4611686018427387904 := by omega
 have e := Int.emod_add_mul_ediv P 18446744073709551616
 cases neg with
 | false =>
  simp only [Bool.not_false, if_true, Bool.false_eq_true, if_false] at hm ⊢
  rw [w64 _ (by omega) (by omega), hm]
 | true =>
  simp only [Bool.not_true, Bool.false_eq_true, if_false, if_true] at hm ⊢
  rw [xor_max _ m0 m1, xor_max _ q0 (by omega), if_pos (by omega), wu64]
  have hX : a * b = -P := by omega
  rw [hX]
  congr 2
  ·
   generalize P / 18446744073709551616 = q at *
   generalize P % 18446744073709551616 = r at *
   have hP : P = 18446744073709551616 * q + r := by omega
   subst hP
   clear hX hm p0 p1 e
   unfold wrap64
   by_cases hr : r = 0
   · subst hr; omega
   · omega
  · omega
theorem Or2 (x y : Int) (k : Nat) (hk : 3 < k) : cmp_Or_int.f k [x, y] = some (if x = 0 then y else x) := by
 unfold cmp_Or_int.f
 have hl : (([x, y] : List Int).length : Int) = 2 := rfl
 rw [hl]
 have r0 : rd [x, y] 0 = x := rfl
 have r1 : rd [x, y] 1 = y := rfl
 obtain ⟨k, rfl⟩ : ∃ m, k = m + 1 := ⟨k - 1, by omega⟩
 simp only [cmp_Or_int.l0]
 rw [if_pos (by omega), if_pos (by omega), hl, if_pos (by omega), r0, show wrap64 (0 + 1) = 1 from by rw [w64s _ (by omega) (by omega)]; rfl]
 by_cases hx : x = 0
 ·
  rw [if_pos hx, if_pos hx]
  obtain ⟨k, rfl⟩ : ∃ m, k = m + 1 := ⟨k - 1, by omega⟩
  simp only [cmp_Or_int.l0]
  rw [if_pos (by omega), if_pos (by omega), hl, if_pos (by omega), r1, show wrap64 (1 + 1) = 2 from by rw [w64s _ (by omega) (by omega)]; rfl]
  by_cases hy : y = 0
  ·
   rw [if_pos hy]
   obtain ⟨k, rfl⟩ : ∃ m, k = m + 1 := ⟨k - 1, by omega⟩
   simp only [cmp_Or_int.l0]
   rw [if_neg (by omega), hy]
  · rw [if_neg hy]
 · rw [if_neg hx, if_neg hx]
theorem Cmp64_eq (a b : Int) : cmp_Compare_int64.f a b = some (if a < b then -1 else if b < a then 1 else 0) := by
 unfold cmp_Compare_int64.f cmp_isNaN_int64.f
 simp only [Option.bind_some, bne_self_eq_false, Bool.false_eq_true, if_false]
 repeat' split
 all_goals first | rfl | omega
theorem CmpU_eq (a b : Int) : cmp_Compare_uint64.f a b = some (if a < b then -1 else if b < a then 1 else 0) := by
 unfold cmp_Compare_uint64.f cmp_isNaN_uint64.f
 simp only [Option.bind_some, bne_self_eq_false, Bool.false_eq_true, if_false]
 repeat' split
 all_goals first | rfl | omega
theorem lex_hi (X Y p r q s : Int) (hX : X = 18446744073709551616 * p + r) (hY : Y = 18446744073709551616 * q + s) (r0 : 0 ≤ r) (r1 : r < 18446744073709551616) (s0 : 0 ≤ s) (s1 : s < 18446744073709551616) :
  (if (if p < q then (-1 : Int) else if q < p then 1 else 0) = 0 then (if r < s then (-1 : Int) else if s < r then 1 else 0) else (if p < q then (-1 : Int) else if q < p then 1 else 0)) = if X < Y then -1 else if Y < X then 1 else 0 := by
 by_cases h1 : p < q
 · rw [if_pos h1, if_neg (show ¬ (-1 : Int) = 0 by omega), if_pos (show X < Y by omega)]
 ·
  rw [if_neg h1]
  by_cases h2 : q < p
  · rw [if_pos h2, if_neg (show ¬ (1 : Int) = 0 by omega), if_neg (show ¬ X < Y by omega), if_pos (show Y < X by omega)]
  ·
   rw [if_neg h2, if_pos rfl]
   obtain rfl : p = q := by omega
   by_cases h3 : r < s
   · rw [if_pos h3, if_pos (show X < Y by omega)]
   ·
    rw [if_neg h3]
    by_cases h4 : s < r
    · rw [if_pos h4, if_neg (show ¬ X < Y by omega), if_pos (show Y < X by omega)]
    · rw [if_neg h4, if_neg (show ¬ X < Y by omega), if_neg (show ¬ Y < X by omega)]
theorem Cmp_eq (a b c d : Int) (ha : In64 a) (hb : In64 b) (hc : In64 c) (hd : In64 d) (k : Nat) (hk : 3 < k) :
  fix_Cmp.f k a b c d = some (if a * b < c * d then -1 else if c * d < a * b then 1 else 0) := by
 unfold fix_Cmp.f
 rw [product_eq a b ha hb, product_eq c d hc hd]
 generalize a * b = X
 generalize c * d = Y
 simp only [Option.bind_some]
 rw [Cmp64_eq, CmpU_eq]
 simp only [Option.bind_some]
 rw [Or2 _ _ k hk]
 simp only [Option.bind_some]
 rw [lex_hi X Y _ _ _ _ (by omega) (by omega) (by omega) (by omega) (by omega) (by omega)]
/-- A lot that may be. -/
def okL (x : S25) : Prop := (0 ≤ x.f0 ∧ x.f0 ≤ 1000) ∧ (0 ≤ x.f1 ∧ x.f1 ≤ 1000000000) ∧ (0 ≤ x.f2 ∧ x.f2 ≤ 1000000000)
theorem lotB_ok (x : S25) (n : Int) (h : lotB x n = true) : okL x ∧ 0 ≤ x.f3 ∧ x.f3 < n := by
 unfold lotB inB at h
 simp only [Bool.and_eq_true, decide_eq_true_eq] at h
 exact ⟨⟨h.1.1.1, h.1.1.2, h.1.2⟩, h.2⟩
theorem Valid_none {L : List S25} {C : List Int} {N : Int} (h : lots_Valid.f L C N = some none) : (0 < L.length ∧ L.length ≤ 8) ∧ (∀ x ∈ L, okL x ∧ 0 ≤ x.f3 ∧ x.f3 < (C.length : Int)) ∧ (0 < C.length ∧ C.length ≤ 8) ∧ (∀ n ∈ C, 0 ≤ n ∧ n ≤ 1000000000000) ∧ 0 ≤ N ∧ N ≤ 1000000000000 := by
 unfold lots_Valid.f at h
 have h := Option.some.inj h
 by_cases h1 : L.length = 0 ∨ 8 < L.length ∨ C.length = 0 ∨ 8 < C.length
 · rw [if_pos h1] at h; cases h
 ·
  rw [if_neg h1] at h
  by_cases h2 : (L.any fun x => !lotB x (C.length : Int)) = true ∨ (C.any fun n => !inB n 1000000000000) = true ∨ inB N 1000000000000 = false
  · rw [if_pos h2] at h; cases h
  ·
   simp only [not_or, List.any_eq_true, not_exists, not_and] at h2
   obtain ⟨a, b, c⟩ := h2
   refine ⟨by omega, fun x hx => lotB_ok x _ ?_, by omega, fun n hn => ?_, ?_⟩
   · have := a x hx; simpa using this
   ·
    have := b n hn
    unfold inB at this; simp at this; exact this
   · unfold inB at c; simp at c; exact c
/-- The lot at a place. -/
def lt (L : List S25) (j : Nat) : S25 := L.getD j z25
theorem rd_lt (L : List S25) (j : Nat) : rd_T25 L (j : Int) = lt L j := by unfold rd_T25 lt; rw [Int.toNat_natCast]
theorem lt_mem (L : List S25) (j : Nat) (h : j < L.length) : lt L j ∈ L := by
 unfold lt; rw [List.getD_eq_getElem?_getD, List.getElem?_eq_getElem h]; exact List.getElem_mem h
theorem lt_ok {L : List S25} (ok : ∀ x ∈ L, okL x) (j : Nat) (h : j < L.length) : okL (lt L j) := ok _ (lt_mem L j h)
/-- Cheaper for what it is worth. -/
def chp (a b : S25) : Bool := if a.f1 = 0 then decide (a.f1 > b.f1) else if b.f1 = 0 then decide (a.f1 > b.f1) else decide (a.f2 * b.f1 < b.f2 * a.f1)
theorem Cheaper_eq (a b : S25) (ha : okL a) (hb : okL b) (k : Nat) (hk : 3 < k) : lots_Cheaper.f k a.f0 a.f1 a.f2 a.f3 b.f0 b.f1 b.f2 b.f3 = some (chp a b) := by
 unfold lots_Cheaper.f chp
 obtain ⟨_, a1, a2⟩ := ha
 obtain ⟨_, b1, b2⟩ := hb
 by_cases h1 : a.f1 = 0
 · rw [if_pos h1, if_pos h1]
 ·
  rw [if_neg h1, if_neg h1]
  by_cases h2 : b.f1 = 0
  · rw [if_pos h2, if_pos h2]
  ·
   rw [if_neg h2, if_neg h2, Cmp_eq _ _ _ _ (by unfold In64; omega) (by unfold In64; omega) (by unfold In64; omega) (by unfold In64; omega) k hk]
   simp only [Option.bind_some]
   congr 1
   generalize a.f2 * b.f1 = X
   generalize b.f2 * a.f1 = Y
   by_cases h3 : X < Y
   · rw [if_pos h3, decide_eq_true h3]; rfl
   ·
    rw [if_neg h3, decide_eq_false h3]
    by_cases h4 : Y < X
    · rw [if_pos h4]; rfl
    · rw [if_neg h4]; rfl
theorem R10 (p : S25) : rd_T25 [p] 0 = p := rfl
theorem r10 (a : Int) : rd [a] 0 = a := rfl
theorem v1 : wrap64 1 = 1 := by unfold wrap64; omega
theorem w1 : wrap64 (0 + 1) = 1 := by unfold wrap64; omega
theorem w2 : wrap64 (1 + 1) = 2 := by unfold wrap64; omega
theorem chk (p q : S25) (hp : okL p) (hq : okL q) : lots_Cheaper.f ordK p.f0 p.f1 p.f2 p.f3 q.f0 q.f1 q.f2 q.f3 = some (chp p q) := Cheaper_eq p q hp hq ordK (by unfold ordK; omega)
theorem chE (p q : S25) (hp : okL p) (hq : okL q) : ELotsSay.chp p q = chp p q := by
 unfold ELotsSay.chp
 rw [chk p q hp hq]; rfl
theorem ord_ok (L : List S25) (h0 : 0 < L.length) (h1 : L.length < 20) (h : ∀ x ∈ L, okL x) : ordOK L = true := by
 have hr : ∀ i : Nat, i < L.length → okL (rd_T25 L i) := fun i hi => by rw [rd_lt]; exact lt_ok h i hi
 unfold ordOK
 rw [Bool.and_eq_true, Bool.and_eq_true]
 refine ⟨⟨decide_eq_true h0, decide_eq_true h1⟩, List.all_eq_true.2 fun i hi => List.all_eq_true.2 fun j hj => ?_⟩
 rw [chk _ _ (hr i (List.mem_range.1 hi)) (hr j (List.mem_range.1 hj))]
 rfl
theorem okx (x c : Int) (hx : 0 ≤ x) (hx1 : x ≤ 1000) (hc : 0 ≤ c) (hc1 : c ≤ 1000) (v : Int) (hv : 0 ≤ v) (hv1 : v ≤ 1000) : okL (⟨x, v, c, 0⟩ : S25) := by unfold okL; simp only; omega
theorem order1 (p : S25) (hp : okL p) : lots_Order.f [p] = some [0] := by
 unfold lots_Order.f
 rw [if_pos (ord_ok _ (by simp) (by simp) (by intro z hz; simp only [List.mem_cons, List.not_mem_nil, or_false] at hz; subst hz; exact hp))]
 unfold ordF
 show some (Go.Sort.insertionSort (ltI (ordC _)) (ixs 1).toArray 0 1).toList = _
 unfold Go.Sort.insertionSort
 rw [Go.Sort.insOuter, if_neg (by omega)]
 rfl
theorem valid1 : lots_Valid.f [(⟨3, 5, 1, 0⟩ : S25)] [0] 0 = some none := by rfl
theorem worth1 (a : Int) (ha : 0 ≤ a) (ha' : a ≤ 1000) (k : Nat) (hk : 6 < k) : lots_worth.f k [(⟨3, 5, 1, 0⟩ : S25)] [0] 0 [a] = some (5 * a) := by
 have e1 : wrap64 (a * 5) = 5 * a := by unfold wrap64; omega
 have e3 : wrap64 (0 + 5 * a) = 5 * a := by unfold wrap64; omega
 have f3 : wrap64 (5 * a) = 5 * a := by unfold wrap64; omega
 unfold lots_worth.f
 rw [if_pos (by simp), if_pos (by simp)]
 show lots_worth.l0 k [0] [a] 1 0 _ [0] 0 = _
 obtain ⟨k, rfl⟩ : ∃ m, k = m + 1 := ⟨k - 1, by omega⟩
 have h1 : lots_worth.l0 (k + 1) [0] [a] 1 0 [(⟨3, 5, 1, 0⟩ : S25)] [0] 0 = lots_worth.l0 k [5 * a] [a] 1 1 [(⟨3, 5, 1, 0⟩ : S25)] [0] 0 := by
  simp [lots_worth.l0, R10, r10, e1, e3, f3, w1, v1]
 rw [h1]
 clear h1
 obtain ⟨k, rfl⟩ : ∃ m, k = m + 1 := ⟨k - 1, by omega⟩
 have h1 : lots_worth.l0 (k + 1) [5 * a] [a] 1 1 [(⟨3, 5, 1, 0⟩ : S25)] [0] 0 = lots_worth.l1 k 0 [5 * a] 1 0 [(⟨3, 5, 1, 0⟩ : S25)] [0] 0 := by
  simp [lots_worth.l0]
 rw [h1]
 clear h1
 obtain ⟨k, rfl⟩ : ∃ m, k = m + 1 := ⟨k - 1, by omega⟩
 have h1 : lots_worth.l1 (k + 1) 0 [5 * a] 1 0 [(⟨3, 5, 1, 0⟩ : S25)] [0] 0 = lots_worth.l1 k (5 * a) [5 * a] 1 1 [(⟨3, 5, 1, 0⟩ : S25)] [0] 0 := by
  simp [lots_worth.l1, r10, e3, f3, w1, v1]
 rw [h1]
 clear h1
 obtain ⟨k, rfl⟩ : ∃ m, k = m + 1 := ⟨k - 1, by omega⟩
 simp [lots_worth.l1]
theorem greedy1 (k : Nat) (hk : 20 < k) : lots_Greedy.f k [(⟨3, 5, 1, 0⟩ : S25)] [0] 0 = some ([0], true) := by
 unfold lots_Greedy.f
 rw [valid1]
 simp only [Option.bind_some, Option.isNone_none]
 rw [if_pos trivial, if_pos (by simp), if_pos (by simp)]
 show (lots_worth.f k _ [0] 0 [0]).bind _ = _
 rw [worth1 0 (by omega) (by omega) k (by omega), Option.bind_some, order1 _ (okx 3 1 (by omega) (by omega) (by omega) (by omega) 5 (by omega) (by omega)), Option.bind_some]
 show lots_Greedy.l0 k [0] 0 [0] 1 0 _ [0] 0 = _
 obtain ⟨k, rfl⟩ : ∃ m, k = m + 1 := ⟨k - 1, by omega⟩
 have h1 : lots_Greedy.l0 (k + 1) [0] 0 [0] 1 0 [(⟨3, 5, 1, 0⟩ : S25)] [0] 0 = lots_Greedy.l1 k [0] 0 0 [0] 1 0 [(⟨3, 5, 1, 0⟩ : S25)] [0] 0 := by
  simp [lots_Greedy.l0, r10]
 rw [h1]
 clear h1
 obtain ⟨k, rfl⟩ : ∃ m, k = m + 1 := ⟨k - 1, by omega⟩
 have h1 : lots_Greedy.l1 (k + 1) [0] 0 0 [0] 1 0 [(⟨3, 5, 1, 0⟩ : S25)] [0] 0 = lots_Greedy.j2 k [0] 0 0 [0] 1 0 false [(⟨3, 5, 1, 0⟩ : S25)] [0] 0 := by
  simp [lots_Greedy.l1]
 rw [h1]
 clear h1
 obtain ⟨k, rfl⟩ : ∃ m, k = m + 1 := ⟨k - 1, by omega⟩
 have h1 : lots_Greedy.j2 (k + 1) [0] 0 0 [0] 1 0 false [(⟨3, 5, 1, 0⟩ : S25)] [0] 0 = lots_Greedy.l0 k [0] 0 [0] 1 1 [(⟨3, 5, 1, 0⟩ : S25)] [0] 0 := by
  simp [lots_Greedy.j2, w1, v1]
 rw [h1]
 clear h1
 obtain ⟨k, rfl⟩ : ∃ m, k = m + 1 := ⟨k - 1, by omega⟩
 simp [lots_Greedy.l0]
theorem whole1 (k : Nat) (hk : 5 < k) : lots_whole.f k [(⟨3, 5, 1, 0⟩ : S25)] [0] 0 = some [3] := by
 unfold lots_whole.f
 show lots_whole.l0 k [] _ 1 0 = _
 obtain ⟨k, rfl⟩ : ∃ m, k = m + 1 := ⟨k - 1, by omega⟩
 have h1 : lots_whole.l0 (k + 1) [] [(⟨3, 5, 1, 0⟩ : S25)] 1 0 = lots_whole.l0 k [3] [(⟨3, 5, 1, 0⟩ : S25)] 1 1 := by
  simp [lots_whole.l0, R10, w1, v1]
 rw [h1]
 clear h1
 obtain ⟨k, rfl⟩ : ∃ m, k = m + 1 := ⟨k - 1, by omega⟩
 simp [lots_whole.l0]
theorem fits1 (k : Nat) (hk : 8 < k) : lots_fits.f k [(⟨3, 5, 1, 0⟩ : S25)] [0] 0 [3] = some true := by
 unfold lots_fits.f
 rw [valid1]
 simp only [Option.bind_some, Option.isNone_none]
 rw [if_pos trivial]
 show lots_fits.j0 k [3] false _ [0] 0 = _
 obtain ⟨k, rfl⟩ : ∃ m, k = m + 1 := ⟨k - 1, by omega⟩
 have h1 : lots_fits.j0 (k + 1) [3] false [(⟨3, 5, 1, 0⟩ : S25)] [0] 0 = lots_fits.l0 k [3] 1 0 [(⟨3, 5, 1, 0⟩ : S25)] [0] 0 := by
  simp [lots_fits.j0]
 rw [h1]
 clear h1
 obtain ⟨k, rfl⟩ : ∃ m, k = m + 1 := ⟨k - 1, by omega⟩
 have h1 : lots_fits.l0 (k + 1) [3] 1 0 [(⟨3, 5, 1, 0⟩ : S25)] [0] 0 = lots_fits.l0 k [3] 1 1 [(⟨3, 5, 1, 0⟩ : S25)] [0] 0 := by
  simp [lots_fits.l0, r10, R10, w1, v1]
 rw [h1]
 clear h1
 obtain ⟨k, rfl⟩ : ∃ m, k = m + 1 := ⟨k - 1, by omega⟩
 simp [lots_fits.l0]
theorem first_eq (k : Nat) (hk : 100 < k) : pledgelaw18_first.f k = some true := by
 unfold pledgelaw18_first.f
 simp only [Option.bind_some]
 rw [greedy1 k (by omega)]
 simp only [Option.bind_some]
 rw [if_pos trivial, if_pos (by simp), if_pos (by simp), if_pos (by rfl)]
 unfold lots_Most.f lots_Worth.f
 rw [whole1 k (by omega), Option.bind_some, fits1 k (by omega), Option.bind_some, if_pos rfl, worth1 3 (by omega) (by omega) k (by omega)]
 rfl
/-- What is taken of the first i lots of a group is worth. -/
def gS (L : List S25) (T : List Int) (g : Int) : Nat → Int
 | 0 => 0
 | i + 1 => gS L T g i + (if (lt L i).f3 = g then T.getD i 0 * (lt L i).f1 else 0)
/-- A cap. -/
def cap1 (c s : Int) : Int := if c > 0 then mn s c else s
/-- What the first m groups count. -/
def gV (L : List S25) (C T : List Int) : Nat → Int
 | 0 => 0
 | m + 1 => gV L C T m + cap1 (C.getD m 0) (gS L T m T.length)
/-- What a choice is worth. -/
def gW (L : List S25) (C T : List Int) : Int := gV L C T C.length
/-- What the first i cost. -/
def gK (L : List S25) (T : List Int) : Nat → Int
 | 0 => 0
 | i + 1 => gK L T i + T.getD i 0 * (lt L i).f2
/-- A choice that may be. -/
def okT (L : List S25) (T : List Int) : Prop := T.length = L.length ∧ ∀ i : Nat, i < L.length → 0 ≤ T.getD i 0 ∧ T.getD i 0 ≤ (lt L i).f0
theorem mul_bd {a b A B : Int} (ha : 0 ≤ a) (ha' : a ≤ A) (hb : 0 ≤ b) (hb' : b ≤ B) : 0 ≤ a * b ∧ a * b ≤ A * B :=
 ⟨Int.mul_nonneg ha hb, Int.le_trans (Int.mul_le_mul_of_nonneg_right ha' hb) (Int.mul_le_mul_of_nonneg_left hb' (Int.le_trans ha ha'))⟩
theorem pr_bd {L : List S25} {T : List Int} (ok : ∀ x ∈ L, okL x) (hT : okT L T) (i : Nat) (h : i < L.length) : 0 ≤ T.getD i 0 * (lt L i).f1 ∧ T.getD i 0 * (lt L i).f1 ≤ 1000000000000 := by
 obtain ⟨a, b, _⟩ := lt_ok ok i h
 obtain ⟨c, d⟩ := hT.2 i h
 have := mul_bd (A := 1000) (B := 1000000000) c (by omega) b.1 b.2
 omega
theorem pk_bd {L : List S25} {T : List Int} (ok : ∀ x ∈ L, okL x) (hT : okT L T) (i : Nat) (h : i < L.length) : 0 ≤ T.getD i 0 * (lt L i).f2 ∧ T.getD i 0 * (lt L i).f2 ≤ 1000000000000 := by
 obtain ⟨a, _, b⟩ := lt_ok ok i h
 obtain ⟨c, d⟩ := hT.2 i h
 have := mul_bd (A := 1000) (B := 1000000000) c (by omega) b.1 b.2
 omega
theorem gS_bd {L : List S25} {T : List Int} (ok : ∀ x ∈ L, okL x) (hT : okT L T) (g : Int) : ∀ i : Nat, i ≤ L.length → 0 ≤ gS L T g i ∧ gS L T g i ≤ i * 1000000000000
 | 0, _ => by simp [gS]
 | i + 1, h => by
  have h1 := gS_bd ok hT g i (by omega)
  have h2 := pr_bd ok hT i (by omega)
  simp only [gS]
  split <;> omega
theorem gK_bd {L : List S25} {T : List Int} (ok : ∀ x ∈ L, okL x) (hT : okT L T) : ∀ i : Nat, i ≤ L.length → 0 ≤ gK L T i ∧ gK L T i ≤ i * 1000000000000
 | 0, _ => by simp [gK]
 | i + 1, h => by
  have h1 := gK_bd ok hT i (by omega)
  have h2 := pk_bd ok hT i (by omega)
  simp only [gK]
  omega
theorem cap_bd (c s : Int) (h : 0 ≤ s) : 0 ≤ cap1 c s ∧ cap1 c s ≤ s := by
 unfold cap1 mn; split
 · split <;> omega
 · omega
theorem gV_bd {L : List S25} {C T : List Int} (ok : ∀ x ∈ L, okL x) (hT : okT L T) (h8 : L.length ≤ 8) : ∀ m : Nat, 0 ≤ gV L C T m ∧ gV L C T m ≤ m * 8000000000000
 | 0 => by simp [gV]
 | m + 1 => by
  have h1 := gV_bd (C := C) ok hT h8 m
  have h2 := gS_bd ok hT (m : Int) T.length (by rw [hT.1]; omega)
  have h3 := cap_bd (C.getD m 0) _ h2.1
  have h4 := hT.1
  simp only [gV]
  omega
theorem set_len (T : List Int) (a : Nat) (v : Int) : (T.set a v).length = T.length := List.length_set
theorem getD_set (T : List Int) (a i : Nat) (v : Int) (ha : a < T.length) : (T.set a v).getD i 0 = if i = a then v else T.getD i 0 := by
 rw [List.getD_eq_getElem?_getD, List.getD_eq_getElem?_getD, List.getElem?_set]
 by_cases h : a = i
 · subst h; rw [if_pos rfl, if_pos ha, if_pos rfl]; rfl
 · rw [if_neg h, if_neg (fun e => h e.symm)]
/-- More by d of one. -/
theorem gS_set (L : List S25) (T : List Int) (a : Nat) (d : Int) (ha : a < T.length) (g : Int) : ∀ i : Nat, gS L (T.set a (T.getD a 0 + d)) g i = gS L T g i + (if a < i ∧ (lt L a).f3 = g then d * (lt L a).f1 else 0)
 | 0 => by simp [gS]
 | i + 1 => by
  simp only [gS]
  rw [gS_set L T a d ha g i, getD_set T a i _ ha]
  by_cases h : i = a
  ·
   subst h
   rw [if_pos rfl, if_neg (by omega)]
   by_cases hg : (lt L i).f3 = g
   · rw [if_pos hg, if_pos hg, if_pos ⟨by omega, hg⟩, Int.add_mul]; omega
   · rw [if_neg hg, if_neg hg, if_neg (fun x => hg x.2)]
  ·
   rw [if_neg h]
   have e : (a < i + 1 ∧ (lt L a).f3 = g) ↔ (a < i ∧ (lt L a).f3 = g) := by constructor <;> rintro ⟨x, y⟩ <;> exact ⟨by omega, y⟩
   by_cases hg : a < i ∧ (lt L a).f3 = g
   · rw [if_pos hg, if_pos (e.2 hg)]; omega
   · rw [if_neg hg, if_neg (fun x => hg (e.1 x))]; omega
/-- Without caps. -/
theorem gV_free (L : List S25) (C T : List Int) (hC : ∀ j : Nat, C.getD j 0 ≤ 0) (a : Nat) (ha : a < T.length) : ∀ m : Nat, gV L C (T.set a (T.getD a 0 + 1)) m = gV L C T m + (if (lt L a).f3 < (m : Int) ∧ 0 ≤ (lt L a).f3 then (lt L a).f1 else 0)
 | 0 => by simp only [gV]; rw [if_neg (by omega)]; rfl
 | m + 1 => by
  have ih := gV_free L C T hC a ha m
  have e : ∀ s, cap1 (C.getD m 0) s = s := fun s => by unfold cap1; rw [if_neg (by have := hC m; omega)]
  simp only [gV, e]
  rw [set_len, gS_set L T a 1 ha]
  by_cases hg : (lt L a).f3 = (m : Int)
  ·
   rw [if_neg (show ¬ ((lt L a).f3 < (m : Int) ∧ 0 ≤ (lt L a).f3) by omega)] at ih
   rw [if_pos (show a < T.length ∧ (lt L a).f3 = (m : Int) from ⟨ha, hg⟩), if_pos (by omega)]; omega
  ·
   rw [if_neg (show ¬ (a < T.length ∧ (lt L a).f3 = (m : Int)) from fun x => hg x.2)]
   by_cases h2 : (lt L a).f3 < (m : Int) ∧ 0 ≤ (lt L a).f3
   · rw [if_pos h2] at ih; rw [if_pos (by omega)]; omega
   · rw [if_neg h2] at ih; rw [if_neg (by omega)]; omega
theorem w64m (n : Int) (h0 : -1000000000000000 ≤ n) (h1 : n ≤ 1000000000000000) : wrap64 n = n := by unfold wrap64; omega
theorem rd_nat' (l : List Int) (i : Nat) : rd l (i : Int) = l.getD i 0 := by unfold rd; rw [Int.toNat_natCast]
theorem wn (i : Nat) (h : i ≤ 1000000) : wrap64 ((i : Int) + 1) = ((i + 1 : Nat) : Int) := by unfold wrap64; omega
/-- The sums of all groups, of the first i lots. -/
def sm (L : List S25) (T : List Int) (m i : Nat) : List Int := (List.range m).map (fun g : Nat => gS L T (g : Int) i)
theorem sm_len (L : List S25) (T : List Int) (m i : Nat) : (sm L T m i).length = m := by unfold sm; rw [List.length_map, List.length_range]
theorem sm_get (L : List S25) (T : List Int) (m i g : Nat) (h : g < m) : (sm L T m i).getD g 0 = gS L T (g : Int) i := by
 unfold sm; rw [List.getD_eq_getElem?_getD, List.getElem?_map, List.getElem?_range h]; rfl
theorem sm_elem (L : List S25) (T : List Int) (m i j : Nat) (h : j < (sm L T m i).length) : (sm L T m i)[j] = gS L T (j : Int) i := by simp [sm]
theorem sm_zero (L : List S25) (T : List Int) (m : Nat) : List.replicate m (0 : Int) = sm L T m 0 := by
 apply List.ext_getElem
 · rw [List.length_replicate, sm_len]
 ·
  intro j h1 h2
  rw [List.getElem_replicate, sm_elem]; rfl
theorem sm_step (L : List S25) (T : List Int) (m i g : Nat) (v : Int) (hg : (lt L i).f3 = (g : Int)) (hm : g < m) (hv : v = gS L T (g : Int) i + T.getD i 0 * (lt L i).f1) : (sm L T m i).set g v = sm L T m (i + 1) := by
 apply List.ext_getElem
 · rw [List.length_set, sm_len, sm_len]
 ·
  intro j h1 h2
  rw [List.getElem_set, sm_elem, sm_elem]
  simp only [gS]
  by_cases h : g = j
  · subst h; rw [if_pos rfl, if_pos hg, hv]
  · rw [if_neg h, if_neg (by omega), Int.add_zero]
/-- A problem that may be. -/
structure OkP (L : List S25) (C : List Int) : Prop where
 l8 : L.length ≤ 8
 lots : ∀ x ∈ L, okL x
 grp : ∀ x ∈ L, 0 ≤ x.f3 ∧ x.f3 < (C.length : Int)
 c8 : C.length ≤ 8
theorem w_l0 {L : List S25} {C T : List Int} (P : OkP L C) (hT : okT L T) (N : Int) : ∀ (d i k : Nat), i + d = L.length → lots_worth.l0 (k + d + 1) (sm L T C.length i) T (T.length : Int) (i : Int) L C N = lots_worth.l1 k 0 (sm L T C.length L.length) (C.length : Int) 0 L C N
 | 0, i, k, h => by
  obtain rfl : i = L.length := by omega
  simp only [Nat.add_zero, lots_worth.l0]
  rw [if_neg (by rw [hT.1]; omega), sm_len]
 | d + 1, i, k, h => by
  have ih := w_l0 P hT N d (i + 1) k (by omega)
  have hT1 := hT.1
  have hl8 := P.l8
  have hi : i < L.length := by omega
  obtain ⟨q1, q2⟩ := P.grp _ (lt_mem L i hi)
  obtain ⟨g, hg⟩ := Int.eq_ofNat_of_zero_le q1
  have hgC : g < C.length := by omega
  have b1 := gS_bd P.lots hT (g : Int) i (by omega)
  have b2 := pr_bd P.lots hT i hi
  obtain ⟨K, hK⟩ : ∃ K, K = k + d + 1 := ⟨_, rfl⟩
  rw [← hK] at ih
  rw [show k + (d + 1) + 1 = K + 1 by omega]
  have ew1 : wrap64 (T.getD i 0 * (lt L i).f1) = T.getD i 0 * (lt L i).f1 := w64m _ (by omega) (by omega)
  have ew2 : wrap64 (gS L T (g : Int) i + T.getD i 0 * (lt L i).f1) = gS L T (g : Int) i + T.getD i 0 * (lt L i).f1 := w64m _ (by omega) (by omega)
  simp only [lots_worth.l0]
  rw [if_pos (by omega), if_pos (by omega), if_pos (by omega), if_pos (by omega), rd_lt, hg, if_pos (by omega), sm_len, if_pos (by omega), rd_nat', rd_nat', sm_get _ _ _ _ _ hgC, ew1, ew2, Int.toNat_natCast, sm_step L T C.length i g _ hg hgC rfl, wn i (by omega), ih]
theorem w_l1 {L : List S25} {C T : List Int} (P : OkP L C) (hT : okT L T) (N : Int) : ∀ (d j k : Nat), j + d = C.length → lots_worth.l1 (k + d + 1) (gV L C T j) (sm L T C.length L.length) (C.length : Int) (j : Int) L C N = some (gW L C T)
 | 0, j, k, h => by
  obtain rfl : j = C.length := by omega
  simp only [Nat.add_zero, lots_worth.l1]
  rw [if_neg (by omega)]
  rfl
 | d + 1, j, k, h => by
  have ih := w_l1 P hT N d (j + 1) k (by omega)
  have hj : j < C.length := by omega
  have hT1 := hT.1
  have hc8 := P.c8
  have hl8 := P.l8
  have b1 := gV_bd (C := C) P.lots hT hl8 j
  have b3 := gS_bd P.lots hT (j : Int) L.length (by omega)
  have b2 := cap_bd (C.getD j 0) _ b3.1
  obtain ⟨K, hK⟩ : ∃ K, K = k + d + 1 := ⟨_, rfl⟩
  rw [← hK] at ih
  rw [show k + (d + 1) + 1 = K + 1 by omega]
  simp only [lots_worth.l1]
  rw [if_pos (by omega), if_pos (by omega), sm_len, if_pos (by omega), if_pos (by omega), rd_nat', rd_nat', sm_get _ _ _ _ _ hj, wn j (by omega)]
  have e : gV L C T (j + 1) = gV L C T j + cap1 (C.getD j 0) (gS L T (j : Int) L.length) := by simp only [gV]; rw [hT1]
  by_cases hc : C.getD j 0 > 0
  ·
   have e2 : cap1 (C.getD j 0) (gS L T (j : Int) L.length) = mn (gS L T (j : Int) L.length) (C.getD j 0) := if_pos hc
   rw [if_pos hc, ← e2, ← e, w64m _ (by omega) (by omega), ih]
  ·
   have e2 : cap1 (C.getD j 0) (gS L T (j : Int) L.length) = gS L T (j : Int) L.length := if_neg hc
   rw [if_neg hc]
   rw [e2] at e b2
   rw [← e, w64m _ (by omega) (by omega), ih]
theorem worth_g {L : List S25} {C T : List Int} (P : OkP L C) (hT : okT L T) (N : Int) (k : Nat) (hk : 20 < k) : lots_worth.f k L C N T = some (gW L C T) := by
 have hc8 := P.c8
 have hl8 := P.l8
 unfold lots_worth.f
 rw [if_pos (by omega), if_pos (by omega), Int.toNat_natCast, sm_zero L T]
 obtain ⟨k1, rfl⟩ : ∃ m, k = m + L.length + 1 := ⟨k - L.length - 1, by omega⟩
 have h0 := w_l0 P hT N L.length 0 k1 (by omega)
 rw [show ((0 : Nat) : Int) = 0 from rfl] at h0
 rw [h0]
 obtain ⟨k2, rfl⟩ : ∃ m, k1 = m + C.length + 1 := ⟨k1 - C.length - 1, by omega⟩
 exact w_l1 P hT N C.length 0 k2 (by omega)
/-- Is each of d places from i on within? -/
def fb (L : List S25) (T : List Int) : Nat → Nat → Bool
 | _, 0 => true
 | i, d + 1 => decide (0 ≤ T.getD i 0 ∧ T.getD i 0 ≤ (lt L i).f0) && fb L T (i + 1) d
theorem fb_iff (L : List S25) (T : List Int) : ∀ (d i : Nat), fb L T i d = true ↔ ∀ j : Nat, i ≤ j → j < i + d → 0 ≤ T.getD j 0 ∧ T.getD j 0 ≤ (lt L j).f0
 | 0, i => by simp only [fb, true_iff]; intro j _ _; omega
 | d + 1, i => by
  simp only [fb, Bool.and_eq_true, decide_eq_true_eq, fb_iff L T d (i + 1)]
  constructor
  ·
   rintro ⟨h1, h2⟩ j hj hj2
   by_cases h : j = i
   · subst h; exact h1
   · exact h2 j (by omega) (by omega)
  ·
   intro h
   exact ⟨h i (Nat.le_refl _) (by omega), fun j hj hj2 => h j (by omega) (by omega)⟩
theorem f_l0 (L : List S25) (C T : List Int) (hL : L.length ≤ 8) (hT : T.length = L.length) (N : Int) : ∀ (d i k : Nat), i + d = L.length → lots_fits.l0 (k + d + 1) T (T.length : Int) (i : Int) L C N = some (fb L T i d)
 | 0, i, k, h => by
  simp only [Nat.add_zero, lots_fits.l0, fb]
  rw [if_neg (by omega)]
 | d + 1, i, k, h => by
  have ih := f_l0 L C T hL hT N d (i + 1) k (by omega)
  obtain ⟨K, hK⟩ : ∃ K, K = k + d + 1 := ⟨_, rfl⟩
  rw [← hK] at ih
  rw [show k + (d + 1) + 1 = K + 1 by omega]
  simp only [lots_fits.l0, fb]
  rw [if_pos (by omega), if_pos (by omega), if_pos (by omega), rd_nat', rd_lt]
  by_cases h1 : T.getD i 0 < 0
  · rw [if_pos h1, decide_eq_false (by omega)]; rfl
  ·
   rw [if_neg h1, if_pos (by omega)]
   by_cases h2 : T.getD i 0 > (lt L i).f0
   · rw [if_pos h2, decide_eq_false (by omega)]; rfl
   · rw [if_neg h2, decide_eq_true (by omega), wn i (by omega), ih]; rfl
def fitB (L : List S25) (T : List Int) : Bool := decide (T.length = L.length) && fb L T 0 L.length
theorem fitB_iff (L : List S25) (T : List Int) : fitB L T = true ↔ okT L T := by
 unfold fitB okT
 rw [Bool.and_eq_true, decide_eq_true_eq, fb_iff]
 constructor
 · rintro ⟨a, b⟩; exact ⟨a, fun i hi => b i (Nat.zero_le _) (by omega)⟩
 · rintro ⟨a, b⟩; exact ⟨a, fun i _ hi => b i (by omega)⟩
theorem fits_g {L : List S25} {C : List Int} {N : Int} (hV : lots_Valid.f L C N = some none) (T : List Int) (k : Nat) (hk : 20 < k) : lots_fits.f k L C N T = some (fitB L T) := by
 have hL := (Valid_none hV).1
 unfold lots_fits.f
 rw [hV]
 simp only [Option.bind_some, Option.isNone_none]
 rw [if_pos trivial]
 obtain ⟨k1, rfl⟩ : ∃ m, k = m + 1 := ⟨k - 1, by omega⟩
 simp only [lots_fits.j0]
 unfold fitB
 by_cases h : T.length = L.length
 ·
  have e : ((T.length : Int) != (L.length : Int)) = false := by rw [h]; simp
  rw [e, decide_eq_true h]
  simp only [Bool.false_eq_true, if_false, Bool.true_and]
  obtain ⟨k2, rfl⟩ : ∃ m, k1 = m + L.length + 1 := ⟨k1 - L.length - 1, by omega⟩
  exact f_l0 L C T (by omega) h N L.length 0 k2 (by omega)
 ·
  have e : ((T.length : Int) != (L.length : Int)) = true := by rw [bne_iff_ne]; omega
  rw [e, decide_eq_false h]
  rfl
theorem okP_of {L : List S25} {C : List Int} {N : Int} (hV : lots_Valid.f L C N = some none) : OkP L C := by
 obtain ⟨a, b, c, _⟩ := Valid_none hV
 exact ⟨by omega, fun x hx => (b x hx).1, fun x hx => (b x hx).2, by omega⟩
theorem Worth_g {L : List S25} {C : List Int} {N : Int} (hV : lots_Valid.f L C N = some none) (T : List Int) (k : Nat) (hk : 20 < k) : lots_Worth.f k L C N T = some (if fitB L T = true then (gW L C T, true) else (0, false)) := by
 unfold lots_Worth.f
 rw [fits_g hV T k hk, Option.bind_some]
 by_cases h : fitB L T = true
 · rw [if_pos h, if_pos h, worth_g (okP_of hV) ((fitB_iff L T).1 h) N k hk]; rfl
 · rw [if_neg h, if_neg h]
theorem Worth_ok {L : List S25} {C : List Int} {N : Int} (hV : lots_Valid.f L C N = some none) {T : List Int} (hT : okT L T) (k : Nat) (hk : 20 < k) : lots_Worth.f k L C N T = some (gW L C T, true) := by
 rw [Worth_g hV T k hk, if_pos ((fitB_iff L T).2 hT)]
/-- All of each lot. -/
def wh (L : List S25) : List Int := L.map (fun x => x.f0)
theorem wh_get (L : List S25) (i : Nat) (h : i < L.length) : (wh L).getD i 0 = (lt L i).f0 := by
 unfold wh lt; rw [List.getD_eq_getElem?_getD, List.getElem?_map, List.getElem?_eq_getElem h, List.getD_eq_getElem?_getD, List.getElem?_eq_getElem h]; rfl
theorem wh_ok {L : List S25} (ok : ∀ x ∈ L, okL x) : okT L (wh L) := by
 refine ⟨by unfold wh; exact List.length_map _, fun i hi => ?_⟩
 rw [wh_get L i hi]
 have := (lt_ok ok i hi).1
 omega
theorem wh_take (L : List S25) (i : Nat) (h : i < L.length) : (wh L).take i ++ [(lt L i).f0] = (wh L).take (i + 1) := by
 have hl : i < (wh L).length := by unfold wh; rw [List.length_map]; exact h
 rw [List.take_succ_eq_append_getElem hl, ← wh_get L i h, List.getD_eq_getElem?_getD, List.getElem?_eq_getElem hl]; rfl
theorem wh_l0 (L : List S25) (hL : L.length ≤ 8) : ∀ (d i k : Nat), i + d = L.length → lots_whole.l0 (k + d + 1) ((wh L).take i) L (L.length : Int) (i : Int) = some (wh L)
 | 0, i, k, h => by
  obtain rfl : i = L.length := by omega
  simp only [Nat.add_zero, lots_whole.l0]
  rw [if_neg (by omega), List.take_of_length_le (by unfold wh; rw [List.length_map]; omega)]
 | d + 1, i, k, h => by
  have ih := wh_l0 L hL d (i + 1) k (by omega)
  obtain ⟨K, hK⟩ : ∃ K, K = k + d + 1 := ⟨_, rfl⟩
  rw [← hK] at ih
  rw [show k + (d + 1) + 1 = K + 1 by omega]
  simp only [lots_whole.l0]
  rw [if_pos (by omega), if_pos (by omega), if_pos (by omega), if_pos (by rw [List.length_take]; omega), rd_lt, wh_take L i (by omega), wn i (by omega), ih]
theorem whole_g (L : List S25) (C : List Int) (N : Int) (hL : L.length ≤ 8) (k : Nat) (hk : 20 < k) : lots_whole.f k L C N = some (wh L) := by
 unfold lots_whole.f
 obtain ⟨k1, rfl⟩ : ∃ m, k = m + L.length + 1 := ⟨k - L.length - 1, by omega⟩
 exact wh_l0 L hL L.length 0 k1 (by omega)
theorem Most_g {L : List S25} {C : List Int} {N : Int} (hV : lots_Valid.f L C N = some none) (k : Nat) (hk : 20 < k) : lots_Most.f k L C N = some (gW L C (wh L)) := by
 unfold lots_Most.f
 rw [whole_g L C N (okP_of hV).l8 k hk, Option.bind_some, Worth_ok hV (wh_ok (okP_of hV).lots) k hk]
 rfl
theorem ints_l0 (l : List Int) (hl : l.length ≤ 1000) : ∀ (d i k : Nat), i + d = l.length → pledgeref_Ints.l0 (k + d + 1) l (l.take i) (i : Int) = some l
 | 0, i, k, h => by
  obtain rfl : i = l.length := by omega
  simp only [Nat.add_zero, pledgeref_Ints.l0]
  rw [if_neg (by omega), List.take_length]
 | d + 1, i, k, h => by
  have ih := ints_l0 l hl d (i + 1) k (by omega)
  obtain ⟨K, hK⟩ : ∃ K, K = k + d + 1 := ⟨_, rfl⟩
  rw [← hK] at ih
  rw [show k + (d + 1) + 1 = K + 1 by omega]
  have hi : i < l.length := by omega
  have e : l.take i ++ [l.getD i 0] = l.take (i + 1) := by
   rw [List.take_succ_eq_append_getElem hi, List.getD_eq_getElem?_getD, List.getElem?_eq_getElem hi]; rfl
  simp only [pledgeref_Ints.l0]
  rw [if_pos (by omega), if_pos (by omega), if_pos (by rw [List.length_take]; omega), rd_nat', e, wn i (by omega), ih]
theorem ints_g (l : List Int) (hl : l.length ≤ 1000) (k : Nat) (hk : 1010 < k) : pledgeref_Ints.f k l = some l := by
 unfold pledgeref_Ints.f
 rw [if_pos (by omega), if_pos (by omega)]
 obtain ⟨k1, rfl⟩ : ∃ m, k = m + l.length + 1 := ⟨k - l.length - 1, by omega⟩
 exact ints_l0 l hl l.length 0 k1 (by omega)
theorem set_back (T : List Int) (j : Nat) (v : Int) (hj : j < T.length) : (T.set j v).set j (T.getD j 0) = T := by
 rw [List.set_set, List.getD_eq_getElem?_getD, List.getElem?_eq_getElem hj]
 exact List.set_getElem_self hj
theorem ok_set {L : List S25} {T : List Int} (hT : okT L T) (j : Nat) (v : Int) (hj : j < L.length) (h0 : 0 ≤ v) (h1 : v ≤ (lt L j).f0) : okT L (T.set j v) := by
 refine ⟨by rw [set_len]; exact hT.1, fun i hi => ?_⟩
 rw [getD_set T j i v (by rw [hT.1]; exact hj)]
 by_cases h : i = j
 · subst h; rw [if_pos rfl]; exact ⟨h0, h1⟩
 · rw [if_neg h]; exact hT.2 i hi
theorem c_l0 {L : List S25} {C T : List Int} (P : OkP L C) (hT : okT L T) (N : Int) : ∀ (d i k : Nat), i + d = L.length → lots_Cost.l0 (k + d + 1) (gK L T i) T (T.length : Int) (i : Int) L C N = some (gK L T L.length, true)
 | 0, i, k, h => by
  obtain rfl : i = L.length := by omega
  have hT1 := hT.1
  simp only [Nat.add_zero, lots_Cost.l0]
  rw [if_neg (by omega)]
 | d + 1, i, k, h => by
  have ih := c_l0 P hT N d (i + 1) k (by omega)
  have hT1 := hT.1
  have hl8 := P.l8
  have hi : i < L.length := by omega
  have b1 := gK_bd P.lots hT i (by omega)
  have b2 := pk_bd P.lots hT i hi
  have ew1 : wrap64 (T.getD i 0 * (lt L i).f2) = T.getD i 0 * (lt L i).f2 := w64m _ (by omega) (by omega)
  have ew2 : wrap64 (gK L T i + T.getD i 0 * (lt L i).f2) = gK L T (i + 1) := w64m _ (by omega) (by omega)
  obtain ⟨K, hK⟩ : ∃ K, K = k + d + 1 := ⟨_, rfl⟩
  rw [← hK] at ih
  rw [show k + (d + 1) + 1 = K + 1 by omega]
  simp only [lots_Cost.l0]
  rw [if_pos (by omega), if_pos (by omega), if_pos (by omega), if_pos (by omega), rd_lt, rd_nat', ew1, ew2, wn i (by omega), ih]
theorem Cost_g {L : List S25} {C : List Int} {N : Int} (hV : lots_Valid.f L C N = some none) {T : List Int} (hT : okT L T) (k : Nat) (hk : 20 < k) : lots_Cost.f k L C N T = some (gK L T L.length, true) := by
 have hl8 := (okP_of hV).l8
 unfold lots_Cost.f
 rw [fits_g hV T k hk, Option.bind_some, if_pos ((fitB_iff L T).2 hT)]
 obtain ⟨k1, rfl⟩ : ∃ m, k = m + L.length + 1 := ⟨k - L.length - 1, by omega⟩
 exact c_l0 (okP_of hV) hT N L.length 0 k1 (by omega)
theorem RCmp_j3 (k : Nat) (x b : Bool) : pledgeref1_Cmp.j3 (k + 1) x 0 b = some (if b = true then (if x = true then -1 else 1) else 0) := by
 simp only [pledgeref1_Cmp.j3]
 have e : wrap64 (-0) = 0 := by rw [w64s _ (by omega) (by omega)]; rfl
 rw [e]
 cases b <;> cases x <;> rfl
theorem RCmp_j2 (k : Nat) (hk : 0 < k) (h l h' l' : Int) (x b : Bool) : pledgeref1_Cmp.j2 (k + 1) h l h' l' x 0 b = some (if b = true then (if x = true then 1 else -1) else if h ≠ h' ∨ l ≠ l' then (if x = true then -1 else 1) else 0) := by
 simp only [pledgeref1_Cmp.j2]
 obtain ⟨k, rfl⟩ : ∃ m, k = m + 1 := ⟨k - 1, by omega⟩
 cases b with
 | true => cases x <;> rfl
 | false =>
  simp only [Bool.false_eq_true, if_false]
  by_cases e : h = h'
  ·
   rw [if_pos e, RCmp_j3]
   by_cases e2 : l = l'
   · simp [e, e2]
   · simp [e, e2]
  ·
   rw [if_neg e, RCmp_j3]
   simp [e]
theorem RCmp_j1 (k : Nat) (hk : 1 < k) (h l h' l' : Int) (x y : Bool) : pledgeref1_Cmp.j1 (k + 1) h l h' l' x y = some (if x ≠ y then (if x = true then -1 else 1) else if h < h' ∨ h = h' ∧ l < l' then (if x = true then 1 else -1) else if h ≠ h' ∨ l ≠ l' then (if x = true then -1 else 1) else 0) := by
 simp only [pledgeref1_Cmp.j1]
 obtain ⟨k, rfl⟩ : ∃ m, k = m + 1 := ⟨k - 1, by omega⟩
 by_cases hxy : x = y
 ·
  rw [if_neg (show ¬ (x != y) = true by simp [hxy]), if_neg (show ¬ x ≠ y from fun z => z hxy)]
  by_cases a1 : h < h'
  ·
   rw [if_pos a1, RCmp_j2 k (by omega)]
   simp [a1]
  ·
   rw [if_neg a1]
   by_cases a2 : h = h'
   ·
    rw [if_pos a2, RCmp_j2 k (by omega)]
    subst a2
    by_cases a3 : l < l' <;> simp [a3]
   ·
    rw [if_neg a2, RCmp_j2 k (by omega)]
    simp [a1, a2]
 ·
  rw [if_pos (show (x != y) = true by simpa using hxy), if_pos (show x ≠ y from hxy)]
  cases x <;> rfl
/-- A sign that counts: of what is not 0. -/
theorem sgn_lt (P Q : Int) (n m : Bool) (p0 : 0 ≤ P) (q0 : 0 ≤ Q) (hs hs' : Bool) (e1 : hs = (n && decide (P ≠ 0))) (e2 : hs' = (m && decide (Q ≠ 0))) (X Y : Int) (hX : X = if n = true then -P else P) (hY : Y = if m = true then -Q else Q) :
  (if hs ≠ hs' then (if hs = true then (-1 : Int) else 1) else if P < Q then (if hs = true then 1 else -1) else if P ≠ Q then (if hs = true then -1 else 1) else 0) = if X < Y then -1 else if Y < X then 1 else 0 := by
 by_cases hp : P = 0 <;> by_cases hq : Q = 0 <;> cases n <;> cases m <;> simp [hp, hq] at e1 e2 hX hY <;> subst e1 e2 hX hY <;> simp <;> (repeat' split) <;> omega
theorem RCmp_eq (a b c d : Int) (ha : In64 a) (hb : In64 b) (hc : In64 c) (hd : In64 d) (k : Nat) (hk : 6 < k) :
  pledgeref1_Cmp.f k a b c d = some (if a * b < c * d then -1 else if c * d < a * b then 1 else 0) := by
 unfold pledgeref1_Cmp.f
 have ⟨a0, a1⟩ := ab_bd a ha
 have ⟨b0, b1⟩ := ab_bd b hb
 have ⟨c0, c1⟩ := ab_bd c hc
 have ⟨d0, d1⟩ := ab_bd d hd
 rw [Rsize_eq a ha, Rsize_eq b hb, Rsize_eq c hc, Rsize_eq d hd]
 simp only [Option.bind_some]
 rw [show (if a < 0 then -a else a) = ab a from rfl, show (if b < 0 then -b else b) = ab b from rfl, show (if c < 0 then -c else c) = ab c from rfl, show (if d < 0 then -d else d) = ab d from rfl, RWide_eq _ _ a0 (by omega) b0 (by omega), RWide_eq _ _ c0 (by omega) d0 (by omega)]
 simp only [Option.bind_some]
 have hm := ab_mul a b
 have hm2 := ab_mul c d
 have ⟨p0, p1⟩ := ab_prod a b ha hb
 have ⟨q0, q1⟩ := ab_prod c d hc hd
 have hj : ∀ (n : Bool) (h l h' l' : Int) (x : Bool), (decide (c < 0) != decide (d < 0)) = n → pledgeref1_Cmp.j0 k c d h l h' l' x = pledgeref1_Cmp.j1 (k - 1) h l h' l' x (n && decide (h' ≠ 0 ∨ l' ≠ 0)) := by
  intro n h l h' l' x hn
  obtain ⟨k, rfl⟩ : ∃ m, k = m + 1 := ⟨k - 1, by omega⟩
  simp only [pledgeref1_Cmp.j0, hn, Nat.add_sub_cancel]
  cases n with
  | false => simp
  | true =>
   simp only [if_true, Bool.true_and]
   by_cases e : h' = 0
   ·
    rw [if_pos e]
    congr 1
    by_cases e2 : l' = 0 <;> simp [e, e2]
   · rw [if_neg e, decide_eq_true (.inl e)]
 generalize ab a * ab b = P at *
 generalize ab c * ab d = Q at *
 generalize hn1 : (decide (a < 0) != decide (b < 0)) = n at *
 generalize hn2 : (decide (c < 0) != decide (d < 0)) = m at *
 obtain ⟨k1, hk1⟩ : ∃ z, k - 1 = z + 1 := ⟨k - 2, by omega⟩
 have hX : a * b = if n = true then -P else P := by cases n <;> simp at hm ⊢ <;> omega
 have hY : c * d = if m = true then -Q else Q := by cases m <;> simp at hm2 ⊢ <;> omega
 have key := sgn_lt P Q n m p0 q0 _ _ rfl rfl _ _ hX hY
 have lt_iff : (P / 18446744073709551616 < Q / 18446744073709551616 ∨ P / 18446744073709551616 = Q / 18446744073709551616 ∧ P % 18446744073709551616 < Q % 18446744073709551616) ↔ P < Q := by omega
 have ne_iff : (P / 18446744073709551616 ≠ Q / 18446744073709551616 ∨ P % 18446744073709551616 ≠ Q % 18446744073709551616) ↔ P ≠ Q := by omega
 have zp : (P / 18446744073709551616 ≠ 0 ∨ P % 18446744073709551616 ≠ 0) ↔ P ≠ 0 := by omega
 have zq : (Q / 18446744073709551616 ≠ 0 ∨ Q % 18446744073709551616 ≠ 0) ↔ Q ≠ 0 := by omega
 have fin : ∀ x : Bool, x = (n && decide (P ≠ 0)) → pledgeref1_Cmp.j0 k c d (P / 18446744073709551616) (P % 18446744073709551616) (Q / 18446744073709551616) (Q % 18446744073709551616) x = some (if a * b < c * d then -1 else if c * d < a * b then 1 else 0) := by
  intro x hx
  rw [hj m _ _ _ _ _ rfl, hk1, RCmp_j1 k1 (by omega), ← key, hx]
  simp only [lt_iff, ne_iff, zq]
 cases n with
 | false => simp only [Bool.false_eq_true, if_false]; exact fin _ (by simp)
 | true =>
  simp only [if_true]
  by_cases e : P / 18446744073709551616 = 0
  ·
   rw [if_pos e]; refine fin _ ?_
   rw [Bool.eq_iff_iff]; simp; omega
  ·
   rw [if_neg e]; refine fin _ ?_
   rw [Bool.eq_iff_iff]; simp; omega
theorem any_inB (l : List Int) (m : Int) : (l.any fun n => !inB n m) = !(l.all fun n => inB n m) := by
 induction l with
 | nil => rfl
 | cons x l ih => simp only [List.any_cons, List.all_cons, ih, Bool.not_and]
theorem any_lotB (l : List S25) (m : Int) : (l.any fun x => !lotB x m) = !(l.all fun x => lotB x m) := by
 induction l with
 | nil => rfl
 | cons x l ih => simp only [List.any_cons, List.all_cons, ih, Bool.not_and]
theorem drop_int (C : List Int) (i : Nat) (h : i < C.length) : C.drop i = C.getD i 0 :: C.drop (i + 1) := by
 rw [List.drop_eq_getElem_cons h, List.getD_eq_getElem?_getD, List.getElem?_eq_getElem h]; rfl
theorem drop_lot (L : List S25) (i : Nat) (h : i < L.length) : L.drop i = lt L i :: L.drop (i + 1) := by
 rw [List.drop_eq_getElem_cons h]; unfold lt; rw [List.getD_eq_getElem?_getD, List.getElem?_eq_getElem h]; rfl
theorem lotB_iff (x : S25) (n : Int) : lotB x n = true ↔ (((0 ≤ x.f0 ∧ x.f0 ≤ 1000) ∧ (0 ≤ x.f1 ∧ x.f1 ≤ 1000000000)) ∧ (0 ≤ x.f2 ∧ x.f2 ≤ 1000000000)) ∧ (0 ≤ x.f3 ∧ x.f3 < n) := by
 unfold lotB inB; simp only [Bool.and_eq_true, decide_eq_true_eq]
theorem V_l0 (L : List S25) (C : List Int) (N : Int) (hC : C.length ≤ 8) : ∀ (d i k : Nat) (b : Bool), i + d = C.length → pledgeref18_Valid.l0 (k + d + 1) b (i : Int) L C N = pledgeref18_Valid.l1 k (b && (C.drop i).all fun n => inB n 1000000000000) 0 L C N
 | 0, i, k, b, h => by
  obtain rfl : i = C.length := by omega
  simp only [Nat.add_zero, pledgeref18_Valid.l0]
  rw [if_neg (by omega), List.drop_length]; simp
 | d + 1, i, k, b, h => by
  have ih := fun b => V_l0 L C N hC d (i + 1) k b (by omega)
  obtain ⟨K, hK⟩ : ∃ K, K = k + d + 1 := ⟨_, rfl⟩
  rw [← hK] at ih
  rw [show k + (d + 1) + 1 = K + 1 by omega]
  simp only [pledgeref18_Valid.l0]
  rw [if_pos (by omega), drop_int C i (by omega), List.all_cons, rd_nat', wn i (by omega)]
  cases b with
  | false => rw [if_neg (by simp), ih]; simp
  | true =>
   rw [if_pos rfl, if_pos (by omega)]
   by_cases h1 : C.getD i 0 ≥ 0
   ·
    rw [if_pos h1, ih]
    have e : decide (C.getD i 0 ≤ 1000000000000) = inB (C.getD i 0) 1000000000000 := by unfold inB; exact decide_eq_decide.2 (by omega)
    rw [e, Bool.true_and]
   ·
    rw [if_neg h1, ih]
    have e : inB (C.getD i 0) 1000000000000 = false := by unfold inB; exact decide_eq_false (by omega)
    rw [e]; rfl
theorem V_l1 (L : List S25) (C : List Int) (N : Int) (hL : L.length ≤ 8) : ∀ (d i k : Nat) (b : Bool), i + d = L.length → pledgeref18_Valid.l1 (k + d + 1) b (i : Int) L C N = some (if (b && (L.drop i).all fun x => lotB x (C.length : Int)) = true then 0 else 103)
 | 0, i, k, b, h => by
  obtain rfl : i = L.length := by omega
  simp only [Nat.add_zero, pledgeref18_Valid.l1]
  rw [if_neg (by omega), List.drop_length]; cases b <;> simp
 | d + 1, i, k, b, h => by
  have ih := fun b => V_l1 L C N hL d (i + 1) k b (by omega)
  obtain ⟨K, hK⟩ : ∃ K, K = k + d + 1 := ⟨_, rfl⟩
  rw [← hK] at ih
  rw [show k + (d + 1) + 1 = K + 1 by omega]
  simp only [pledgeref18_Valid.l1]
  rw [if_pos (by omega), if_pos (by omega), drop_lot L i (by omega), List.all_cons, rd_lt, wn i (by omega)]
  have hi := lotB_iff (lt L i) (C.length : Int)
  cases b with
  | false => rw [if_neg (by simp), ih]; simp
  | true =>
   have key : ∀ b', b' = lotB (lt L i) (C.length : Int) → pledgeref18_Valid.l1 K b' ((i + 1 : Nat) : Int) L C N = some (if (true && (lotB (lt L i) (C.length : Int) && (L.drop (i + 1)).all fun x => lotB x (C.length : Int))) = true then 0 else 103) := by
    intro b' e; rw [ih, e, Bool.true_and]
   have no : ∀ q : Prop, q = ((((0 ≤ (lt L i).f0 ∧ (lt L i).f0 ≤ 1000) ∧ (0 ≤ (lt L i).f1 ∧ (lt L i).f1 ≤ 1000000000)) ∧ (0 ≤ (lt L i).f2 ∧ (lt L i).f2 ≤ 1000000000)) ∧ (0 ≤ (lt L i).f3 ∧ (lt L i).f3 < (C.length : Int))) → ¬ q → false = lotB (lt L i) (C.length : Int) := by
    intro q e hq; rw [e, ← hi] at hq; exact (Bool.eq_false_iff.2 hq).symm
   rw [if_pos rfl]
   by_cases h0 : (lt L i).f0 ≥ 0
   ·
    rw [if_pos h0]
    by_cases h1 : (lt L i).f0 ≤ 1000
    ·
     rw [if_pos h1]
     by_cases h2 : (lt L i).f1 ≥ 0
     ·
      rw [if_pos h2]
      by_cases h3 : (lt L i).f1 ≤ 1000000000
      ·
       rw [if_pos h3]
       by_cases h4 : (lt L i).f2 ≥ 0
       ·
        rw [if_pos h4]
        by_cases h5 : (lt L i).f2 ≤ 1000000000
        ·
         rw [if_pos h5]
         by_cases h6 : (lt L i).f3 ≥ 0
         ·
          rw [if_pos h6]
          refine key _ ?_
          by_cases h7 : (lt L i).f3 < (C.length : Int)
          · rw [decide_eq_true h7]; exact (hi.2 (by omega)).symm
          · rw [decide_eq_false h7]; exact no _ rfl (by omega)
         · rw [if_neg h6]; exact key _ (no _ rfl (by omega))
        · rw [if_neg h5]; exact key _ (no _ rfl (by omega))
       · rw [if_neg h4]; exact key _ (no _ rfl (by omega))
      · rw [if_neg h3]; exact key _ (no _ rfl (by omega))
     · rw [if_neg h2]; exact key _ (no _ rfl (by omega))
    · rw [if_neg h1]; exact key _ (no _ rfl (by omega))
   · rw [if_neg h0]; exact key _ (no _ rfl (by omega))
theorem RValid_eq (L : List S25) (C : List Int) (N : Int) : ∃ v, lots_Valid.f L C N = some v ∧ (v = none ∨ v = some 103 ∨ v = some 105) ∧ ∀ k, 40 < k → pledgeref18_Valid.f k L C N = some (v.getD 0) := by
 by_cases hm : L.length = 0 ∨ 8 < L.length ∨ C.length = 0 ∨ 8 < C.length
 ·
  refine ⟨some 105, by unfold lots_Valid.f; rw [if_pos hm], .inr (.inr rfl), fun k hk => ?_⟩
  obtain ⟨k, rfl⟩ : ∃ m, k = m + 1 := ⟨k - 1, by omega⟩
  have hj : pledgeref18_Valid.j0 (k + 1) true L C N = some 105 := by simp only [pledgeref18_Valid.j0]; rw [if_pos trivial]
  unfold pledgeref18_Valid.f
  by_cases h1 : (L.length : Int) < 1
  · rw [if_pos h1, hj]; rfl
  ·
   rw [if_neg h1]
   by_cases h2 : (L.length : Int) > 8
   · rw [if_pos h2, hj]; rfl
   ·
    rw [if_neg h2]
    by_cases h3 : (C.length : Int) < 1
    · rw [if_pos h3, hj]; rfl
    · rw [if_neg h3, decide_eq_true (by omega), hj]; rfl
 ·
  refine ⟨if (N, C.all fun n => inB n 1000000000000, L.all fun x => lotB x (C.length : Int)) = (N, true, true) ∧ inB N 1000000000000 = true then none else some 103, ?_, ?_, fun k hk => ?_⟩
  ·
   unfold lots_Valid.f
   rw [if_neg hm, any_inB, any_lotB]
   cases (L.all fun x => lotB x (C.length : Int)) <;> cases (C.all fun n => inB n 1000000000000) <;> cases inB N 1000000000000 <;> simp
  ·
   split
   · exact .inl rfl
   · exact .inr (.inl rfl)
  ·
   unfold pledgeref18_Valid.f
   obtain ⟨k, rfl⟩ : ∃ m, k = m + 1 := ⟨k - 1, by omega⟩
   rw [if_neg (by omega), if_neg (by omega), if_neg (by omega), decide_eq_false (by omega)]
   obtain ⟨k1, rfl⟩ : ∃ m, k = m + 1 := ⟨k - 1, by omega⟩
   have hj : ∀ b, pledgeref18_Valid.j1 (k1 + 1) b L C N = some (if ((b && (C.all fun n => inB n 1000000000000)) && (L.all fun x => lotB x (C.length : Int))) = true then 0 else 103) := by
    intro b
    simp only [pledgeref18_Valid.j1]
    obtain ⟨k2, rfl⟩ : ∃ m, k1 = m + C.length + 1 := ⟨k1 - C.length - 1, by omega⟩
    have e1 := V_l0 L C N (by omega) C.length 0 k2 b (by omega)
    rw [show ((0 : Nat) : Int) = 0 from rfl] at e1
    rw [e1]
    obtain ⟨k3, rfl⟩ : ∃ m, k2 = m + L.length + 1 := ⟨k2 - L.length - 1, by omega⟩
    have e2 := V_l1 L C N (by omega) L.length 0 k3 (b && ((C.drop 0).all fun n => inB n 1000000000000)) (by omega)
    rw [show ((0 : Nat) : Int) = 0 from rfl] at e2
    rw [e2, List.drop_zero, List.drop_zero]
   have hb : pledgeref18_Valid.j0 (k1 + 1 + 1) false L C N = pledgeref18_Valid.j1 (k1 + 1) (inB N 1000000000000) L C N := by
    simp only [pledgeref18_Valid.j0]
    rw [if_neg (by simp)]
    by_cases h : N ≥ 0
    · rw [if_pos h]; congr 1; unfold inB; exact decide_eq_decide.2 (by omega)
    · rw [if_neg h]; congr 1; unfold inB; exact (decide_eq_false (by omega)).symm
   rw [hb, hj]
   cases (L.all fun x => lotB x (C.length : Int)) <;> cases (C.all fun n => inB n 1000000000000) <;> cases inB N 1000000000000 <;> simp
theorem RV_ok {L : List S25} {C : List Int} {N : Int} (hV : lots_Valid.f L C N = some none) (k : Nat) (hk : 40 < k) : pledgeref18_Valid.f k L C N = some 0 := by
 obtain ⟨v, h1, _, h2⟩ := RValid_eq L C N
 rw [hV] at h1
 obtain rfl := Option.some.inj h1
 exact h2 k hk
theorem RR_l0 (L : List S25) (C T : List Int) (hL : L.length ≤ 8) (hT : T.length = L.length) (N : Int) : ∀ (d i k : Nat), i + d = L.length → pledgeref18_right.l0 (k + d + 1) T (i : Int) L C N = some (fb L T i d)
 | 0, i, k, h => by
  simp only [Nat.add_zero, pledgeref18_right.l0, fb]
  rw [if_neg (by omega)]
 | d + 1, i, k, h => by
  have ih := RR_l0 L C T hL hT N d (i + 1) k (by omega)
  obtain ⟨K, hK⟩ : ∃ K, K = k + d + 1 := ⟨_, rfl⟩
  rw [← hK] at ih
  rw [show k + (d + 1) + 1 = K + 1 by omega]
  simp only [pledgeref18_right.l0, fb]
  rw [if_pos (by omega), if_pos (by omega), rd_nat', rd_lt]
  by_cases h1 : T.getD i 0 < 0
  · rw [if_pos h1, decide_eq_false (by omega)]; rfl
  ·
   rw [if_neg h1, if_pos (by omega)]
   by_cases h2 : T.getD i 0 > (lt L i).f0
   · rw [if_pos h2, decide_eq_false (by omega)]; rfl
   · rw [if_neg h2, decide_eq_true (by omega), wn i (by omega), ih]; rfl
theorem right_g {L : List S25} {C : List Int} {N : Int} (hV : lots_Valid.f L C N = some none) (T : List Int) (k : Nat) (hk : 50 < k) : pledgeref18_right.f k L C N T = some (fitB L T) := by
 have hL := (Valid_none hV).1
 unfold pledgeref18_right.f
 rw [RV_ok hV k (by omega), Option.bind_some, if_pos rfl]
 obtain ⟨k1, rfl⟩ : ∃ m, k = m + 1 := ⟨k - 1, by omega⟩
 simp only [pledgeref18_right.j0]
 unfold fitB
 by_cases h : T.length = L.length
 ·
  have e : ((T.length : Int) != (L.length : Int)) = false := by rw [h]; simp
  rw [e, decide_eq_true h]
  simp only [Bool.false_eq_true, if_false, Bool.true_and]
  obtain ⟨k2, rfl⟩ : ∃ m, k1 = m + L.length + 1 := ⟨k1 - L.length - 1, by omega⟩
  exact RR_l0 L C T (by omega) h N L.length 0 k2 (by omega)
 ·
  have e : ((T.length : Int) != (L.length : Int)) = true := by rw [bne_iff_ne]; omega
  rw [e, decide_eq_false h]
  rfl
theorem RW_l1 {L : List S25} {C T : List Int} (P : OkP L C) (hT : okT L T) (N : Int) (j : Nat) (hj : j < C.length) : ∀ (d i k : Nat), i + d = L.length → pledgeref18_Worth.l1 (k + d + 1) T (gV L C T j) (j : Int) (gS L T (j : Int) i) (i : Int) L C N = pledgeref18_Worth.l0 k T (gV L C T (j + 1)) ((j + 1 : Nat) : Int) L C N
 | 0, i, k, h => by
  obtain rfl : i = L.length := by omega
  have hc8 := P.c8
  have hl8 := P.l8
  have hT1 := hT.1
  have b1 := gV_bd (C := C) P.lots hT hl8 j
  have b3 := gS_bd P.lots hT (j : Int) L.length (by omega)
  have b2 := cap_bd (C.getD j 0) _ b3.1
  simp only [Nat.add_zero, pledgeref18_Worth.l1]
  rw [if_neg (by omega), if_pos (by omega), if_pos (by omega), rd_nat', wn j (by omega)]
  have e : gV L C T (j + 1) = gV L C T j + cap1 (C.getD j 0) (gS L T (j : Int) L.length) := by simp only [gV]; rw [hT1]
  by_cases hc : C.getD j 0 > 0
  ·
   rw [if_pos hc]
   by_cases h2 : gS L T (j : Int) L.length > C.getD j 0
   ·
    have e2 : cap1 (C.getD j 0) (gS L T (j : Int) L.length) = C.getD j 0 := by unfold cap1 mn; rw [if_pos hc]; split <;> omega
    rw [if_pos h2]; rw [e2] at e b2; rw [← e, w64m _ (by omega) (by omega)]
   ·
    have e2 : cap1 (C.getD j 0) (gS L T (j : Int) L.length) = gS L T (j : Int) L.length := by unfold cap1 mn; rw [if_pos hc]; split <;> omega
    rw [if_neg h2]; rw [e2] at e b2; rw [← e, w64m _ (by omega) (by omega)]
  ·
   have e2 : cap1 (C.getD j 0) (gS L T (j : Int) L.length) = gS L T (j : Int) L.length := if_neg hc
   rw [if_neg hc]; rw [e2] at e b2; rw [← e, w64m _ (by omega) (by omega)]
 | d + 1, i, k, h => by
  have ih := RW_l1 P hT N j hj d (i + 1) k (by omega)
  have hT1 := hT.1
  have hl8 := P.l8
  have hi : i < L.length := by omega
  have b1 := gS_bd P.lots hT (j : Int) i (by omega)
  have b2 := pr_bd P.lots hT i hi
  obtain ⟨K, hK⟩ : ∃ K, K = k + d + 1 := ⟨_, rfl⟩
  rw [← hK] at ih
  rw [show k + (d + 1) + 1 = K + 1 by omega]
  have ew1 : wrap64 (T.getD i 0 * (lt L i).f1) = T.getD i 0 * (lt L i).f1 := w64m _ (by omega) (by omega)
  have ew2 : wrap64 (gS L T (j : Int) i + T.getD i 0 * (lt L i).f1) = gS L T (j : Int) i + T.getD i 0 * (lt L i).f1 := w64m _ (by omega) (by omega)
  simp only [pledgeref18_Worth.l1]
  rw [if_pos (by omega), if_pos (by omega), if_pos (by omega), rd_lt, rd_nat', ew1, ew2, wn i (by omega)]
  by_cases hg : (lt L i).f3 = (j : Int)
  · rw [if_pos hg, ← ih]; congr 1; simp only [gS]; rw [if_pos hg]
  · rw [if_neg hg, ← ih]; congr 1; simp only [gS]; rw [if_neg hg]; omega
theorem RW_l0 {L : List S25} {C T : List Int} (P : OkP L C) (hT : okT L T) (N : Int) : ∀ (d j k : Nat), j + d = C.length → d * 20 < k → pledgeref18_Worth.l0 k T (gV L C T j) (j : Int) L C N = some (gW L C T, true)
 | 0, j, k, h, hk => by
  obtain rfl : j = C.length := by omega
  obtain ⟨k, rfl⟩ : ∃ m, k = m + 1 := ⟨k - 1, by omega⟩
  simp only [pledgeref18_Worth.l0]
  rw [if_neg (by omega)]
  rfl
 | d + 1, j, k, h, hk => by
  have hl8 := P.l8
  obtain ⟨k, rfl⟩ : ∃ m, k = m + 1 := ⟨k - 1, by omega⟩
  simp only [pledgeref18_Worth.l0]
  rw [if_pos (by omega)]
  obtain ⟨k2, rfl⟩ : ∃ m, k = m + L.length + 1 := ⟨k - L.length - 1, by omega⟩
  have e := RW_l1 P hT N j (by omega) L.length 0 k2 (by omega)
  rw [show ((0 : Nat) : Int) = 0 from rfl, show gS L T (j : Int) 0 = 0 from rfl] at e
  rw [e]
  exact RW_l0 P hT N d (j + 1) k2 (by omega) (by omega)
theorem RWorth_g {L : List S25} {C : List Int} {N : Int} (hV : lots_Valid.f L C N = some none) (T : List Int) (k : Nat) (hk : 200 < k) : pledgeref18_Worth.f k L C N T = some (if fitB L T = true then (gW L C T, true) else (0, false)) := by
 have P := okP_of hV
 have hc8 := P.c8
 unfold pledgeref18_Worth.f
 rw [right_g hV T k (by omega), Option.bind_some]
 by_cases h : fitB L T = true
 ·
  rw [if_pos h, if_pos h]
  exact RW_l0 P ((fitB_iff L T).1 h) N C.length 0 k (by omega) (by omega)
 · rw [if_neg h, if_neg h]
theorem RC_l0 {L : List S25} {C T : List Int} (P : OkP L C) (hT : okT L T) (N : Int) : ∀ (d i k : Nat), i + d = L.length → pledgeref18_Cost.l0 (k + d + 1) T (gK L T i) (i : Int) L C N = some (gK L T L.length, true)
 | 0, i, k, h => by
  obtain rfl : i = L.length := by omega
  have hT1 := hT.1
  simp only [Nat.add_zero, pledgeref18_Cost.l0]
  rw [if_neg (by omega)]
 | d + 1, i, k, h => by
  have ih := RC_l0 P hT N d (i + 1) k (by omega)
  have hT1 := hT.1
  have hl8 := P.l8
  have hi : i < L.length := by omega
  have b1 := gK_bd P.lots hT i (by omega)
  have b2 := pk_bd P.lots hT i hi
  have ew1 : wrap64 (T.getD i 0 * (lt L i).f2) = T.getD i 0 * (lt L i).f2 := w64m _ (by omega) (by omega)
  have ew2 : wrap64 (gK L T i + T.getD i 0 * (lt L i).f2) = gK L T (i + 1) := w64m _ (by omega) (by omega)
  obtain ⟨K, hK⟩ : ∃ K, K = k + d + 1 := ⟨_, rfl⟩
  rw [← hK] at ih
  rw [show k + (d + 1) + 1 = K + 1 by omega]
  simp only [pledgeref18_Cost.l0]
  rw [if_pos (by omega), if_pos (by omega), if_pos (by omega), rd_lt, rd_nat', ew1, ew2, wn i (by omega), ih]
theorem RCost_g {L : List S25} {C : List Int} {N : Int} (hV : lots_Valid.f L C N = some none) (T : List Int) (k : Nat) (hk : 200 < k) : pledgeref18_Cost.f k L C N T = some (if fitB L T = true then (gK L T L.length, true) else (0, false)) := by
 have P := okP_of hV
 have hl8 := P.l8
 unfold pledgeref18_Cost.f
 rw [right_g hV T k (by omega), Option.bind_some]
 by_cases h : fitB L T = true
 ·
  rw [if_pos h, if_pos h]
  obtain ⟨k1, rfl⟩ : ∃ m, k = m + L.length + 1 := ⟨k - L.length - 1, by omega⟩
  exact RC_l0 P ((fitB_iff L T).1 h) N L.length 0 k1 (by omega)
 · rw [if_neg h, if_neg h]
/-- Does a choice fit? -/
def ftB (L : List S25) (C : List Int) (N : Int) (T : List Int) : Bool := fitB L T && decide (gW L C T ≥ N)
theorem RFits_g {L : List S25} {C : List Int} {N : Int} (hV : lots_Valid.f L C N = some none) (T : List Int) (k : Nat) (hk : 200 < k) : pledgeref18_Fits.f k L C N T = some (ftB L C N T) := by
 unfold pledgeref18_Fits.f ftB
 rw [RWorth_g hV T k hk, Option.bind_some]
 by_cases h : fitB L T = true
 · rw [if_pos h, h]; rfl
 · rw [if_neg h, Bool.eq_false_iff.2 h]; rfl
theorem Fits_b {L : List S25} {C : List Int} {N : Int} (hV : lots_Valid.f L C N = some none) (T : List Int) (k : Nat) (hk : 20 < k) : lots_Fits.f k L C N T = some (ftB L C N T) := by
 unfold lots_Fits.f ftB
 rw [Worth_g hV T k hk, Option.bind_some]
 by_cases h : fitB L T = true
 · rw [if_pos h, h]; rfl
 · rw [if_neg h, Bool.eq_false_iff.2 h]; rfl
theorem bad_right {L : List S25} {C : List Int} {N : Int} (c : Int) (hc : c ≠ 0) (k : Nat) (h : pledgeref18_Valid.f k L C N = some c) (hk : 1 < k) (T : List Int) : pledgeref18_right.f k L C N T = some false := by
 unfold pledgeref18_right.f
 rw [h, Option.bind_some, if_neg hc]
 obtain ⟨k1, rfl⟩ : ∃ m, k = m + 1 := ⟨k - 1, by omega⟩
 simp only [pledgeref18_right.j0]
 rw [if_pos trivial]
theorem bad_Worth {L : List S25} {C : List Int} {N : Int} (c : Int) (hc : c ≠ 0) (k : Nat) (h : pledgeref18_Valid.f k L C N = some c) (hk : 1 < k) (T : List Int) : pledgeref18_Worth.f k L C N T = some (0, false) := by
 unfold pledgeref18_Worth.f; rw [bad_right c hc k h hk T]; rfl
theorem bad_Cost {L : List S25} {C : List Int} {N : Int} (c : Int) (hc : c ≠ 0) (k : Nat) (h : pledgeref18_Valid.f k L C N = some c) (hk : 1 < k) (T : List Int) : pledgeref18_Cost.f k L C N T = some (0, false) := by
 unfold pledgeref18_Cost.f; rw [bad_right c hc k h hk T]; rfl
theorem bad_RFits {L : List S25} {C : List Int} {N : Int} (c : Int) (hc : c ≠ 0) (k : Nat) (h : pledgeref18_Valid.f k L C N = some c) (hk : 1 < k) (T : List Int) : pledgeref18_Fits.f k L C N T = some false := by
 unfold pledgeref18_Fits.f; rw [bad_Worth c hc k h hk T]; rfl
theorem bad_Fits {L : List S25} {C : List Int} {N : Int} (c : Int) (h : lots_Valid.f L C N = some (some c)) (k : Nat) (hk : 1 < k) (T : List Int) : lots_Fits.f k L C N T = some false := by
 obtain ⟨k1, rfl⟩ : ∃ m, k = m + 1 := ⟨k - 1, by omega⟩
 have e : lots_fits.f (k1 + 1) L C N T = some false := by
  unfold lots_fits.f; rw [h, Option.bind_some, if_neg (by simp)]; simp only [lots_fits.j0]; rw [if_pos trivial]
 unfold lots_Fits.f lots_Worth.f; rw [e]; rfl
theorem RFull_l0 (L : List S25) (C : List Int) (N : Int) (hL : L.length ≤ 8) : ∀ (d i k : Nat), i + d = L.length → pledgeref18_Full.l0 (k + d + 1) ((wh L).take i) (i : Int) L C N = some (wh L)
 | 0, i, k, h => by
  simp only [Nat.add_zero, pledgeref18_Full.l0]
  rw [if_neg (by omega), List.take_of_length_le (by unfold wh; rw [List.length_map]; omega)]
 | d + 1, i, k, h => by
  have ih := RFull_l0 L C N hL d (i + 1) k (by omega)
  obtain ⟨K, hK⟩ : ∃ K, K = k + d + 1 := ⟨_, rfl⟩
  rw [← hK] at ih
  rw [show k + (d + 1) + 1 = K + 1 by omega]
  simp only [pledgeref18_Full.l0]
  rw [if_pos (by omega), if_pos (by omega), if_pos (by rw [List.length_take]; omega), rd_lt, wh_take L i (by omega), wn i (by omega), ih]
theorem RMost_g {L : List S25} {C : List Int} {N : Int} (hV : lots_Valid.f L C N = some none) (k : Nat) (hk : 200 < k) : pledgeref18_Most.f k L C N = some (gW L C (wh L)) := by
 have P := okP_of hV
 have hl8 := P.l8
 unfold pledgeref18_Most.f pledgeref18_Full.f
 obtain ⟨k1, hk1⟩ : ∃ m, k = m + L.length + 1 := ⟨k - L.length - 1, by omega⟩
 have e := RFull_l0 L C N hl8 L.length 0 k1 (by omega)
 rw [← hk1, List.take_zero, show ((0 : Nat) : Int) = 0 from rfl] at e
 rw [e, Option.bind_some, RWorth_g hV _ k hk, if_pos ((fitB_iff L (wh L)).2 (wh_ok P.lots))]
 rfl
theorem worth_up {L : List S25} {C : List Int} {N : Int} {T : List Int} {k : Nat} {r : Int} (h : lots_worth.f k L C N T = some r) : ∀ m : Nat, lots_worth.f (k + m) L C N T = some r
 | 0 => h
 | m + 1 => lots_worth.mono _ _ _ _ _ _ (worth_up h m)
/-- The greedy take's two loops go alike. -/
theorem greedy_same {L : List S25} {C : List Int} {N : Int} (hV : lots_Valid.f L C N = some none) (od : List Int) (ho : ∀ i : Nat, i < od.length → 0 ≤ od.getD i 0 ∧ od.getD i 0 < (L.length : Int)) (hl : od.length ≤ 1000) : ∀ (k : Nat) (T : List Int) (n : Int), okT L T → 
  (∀ i : Nat, i ≤ od.length → ∀ r, lots_Greedy.l0 k T n od (od.length : Int) (i : Int) L C N = some r → pledgeref18_Greedy.l0 (k + 300) T od n (i : Int) L C N = some r) ∧
  (∀ (i j : Nat), i < od.length → j < L.length → ∀ r, lots_Greedy.l1 k T n (j : Int) od (od.length : Int) (i : Int) L C N = some r → pledgeref18_Greedy.l1 (k + 300) T od n (i : Int) (j : Int) L C N = some r) ∧
  (∀ (i j : Nat) (b : Bool), i < od.length → j < L.length → (b = true → T.getD j 0 < (lt L j).f0) → ∀ r, lots_Greedy.j2 k T n (j : Int) od (od.length : Int) (i : Int) b L C N = some r → pledgeref18_Greedy.j2 (k + 300) T od n (i : Int) (j : Int) b L C N = some r)
 | 0, T, n, _ => ⟨fun i _ r h => by simp [lots_Greedy.l0] at h, fun i j _ _ r h => by simp [lots_Greedy.l1] at h, fun i j b _ _ _ r h => by simp [lots_Greedy.j2] at h⟩
 | k + 1, T, n, hT => by
  have P := okP_of hV
  have hT1 := hT.1
  refine ⟨fun i hi r h => ?_, fun i j hi hj r h => ?_, fun i j b hi hj hb r h => ?_⟩
  ·
   rw [show k + 1 + 300 = (k + 300) + 1 by omega]
   simp only [lots_Greedy.l0] at h
   simp only [pledgeref18_Greedy.l0]
   by_cases h1 : (i : Int) < (od.length : Int)
   ·
    rw [if_pos h1, if_pos (by omega), if_pos (by omega), rd_nat'] at h
    rw [if_pos h1, if_pos (by omega), rd_nat']
    obtain ⟨o1, o2⟩ := ho i (by omega)
    obtain ⟨j, hj⟩ := Int.eq_ofNat_of_zero_le o1
    rw [hj] at h ⊢
    exact (greedy_same hV od ho hl k T n hT).2.1 i j (by omega) (by omega) r h
   ·
    rw [if_neg h1] at h
    rw [if_neg h1]; exact h
  ·
   rw [show k + 1 + 300 = (k + 300) + 1 by omega]
   simp only [lots_Greedy.l1] at h
   simp only [pledgeref18_Greedy.l1]
   by_cases h1 : n < N
   ·
    rw [if_pos h1, if_pos (by omega), if_pos (by omega), if_pos (by omega), rd_nat', rd_lt] at h
    rw [if_pos h1, if_pos (by omega), if_pos (by omega), if_pos (by omega), rd_nat', rd_lt]
    exact (greedy_same hV od ho hl k T n hT).2.2 i j _ hi hj (fun e => of_decide_eq_true e) r h
   ·
    rw [if_neg h1] at h
    rw [if_neg h1]
    exact (greedy_same hV od ho hl k T n hT).2.2 i j false hi hj (fun e => by simp at e) r h
  ·
   rw [show k + 1 + 300 = (k + 300) + 1 by omega]
   simp only [lots_Greedy.j2] at h
   simp only [pledgeref18_Greedy.j2]
   cases b with
   | false =>
    rw [if_neg (by simp), wn i (by omega)] at h
    rw [if_neg (by simp), wn i (by omega)]
    exact (greedy_same hV od ho hl k T n hT).1 (i + 1) (by omega) r h
   | true =>
    have ht := hT.2 j hj
    have hb' := hb rfl
    have hoj := (lt_ok P.lots j hj).1
    rw [if_pos rfl, if_pos (by omega), if_pos (by omega), Option.bind_some, Int.toNat_natCast, rd_nat', w64m _ (by omega) (by omega)] at h
    rw [if_pos rfl, if_pos (by omega), if_pos (by omega), Option.bind_some, Int.toNat_natCast, rd_nat', w64m _ (by omega) (by omega)]
    have hU : okT L (T.set j (T.getD j 0 + 1)) := ok_set hT j _ hj (by omega) (by omega)
    rw [RWorth_g hV _ (k + 300) (by omega), if_pos ((fitB_iff L _).2 hU), Option.bind_some]
    obtain ⟨m, hm, h2⟩ := Option.bind_eq_some_iff.mp h
    have hm' : m = gW L C (T.set j (T.getD j 0 + 1)) := by
     by_cases hk : 20 < k
     · rw [worth_g P hU N k hk] at hm; exact (Option.some.inj hm).symm
     ·
      have := worth_up hm 21
      rw [worth_g P hU N (k + 21) (by omega)] at this; exact (Option.some.inj this).symm
    subst hm'
    simp only []
    have hg : (T.set j (T.getD j 0 + 1)).getD j 0 = T.getD j 0 + 1 := by rw [getD_set T j j _ (by omega), if_pos rfl]
    have hs : (T.set j (T.getD j 0 + 1)).set j (wrap64 ((T.set j (T.getD j 0 + 1)).getD j 0 - 1)) = T := by
     rw [hg, w64m _ (by omega) (by omega), show T.getD j 0 + 1 - 1 = T.getD j 0 by omega]; exact set_back T j _ (by omega)
    by_cases h3 : gW L C (T.set j (T.getD j 0 + 1)) ≤ n
    ·
     rw [if_pos h3, rd_nat', hs, wn i (by omega)] at h2
     rw [if_pos h3, rd_nat', hs, wn i (by omega)]
     exact (greedy_same hV od ho hl k T n hT).1 (i + 1) (by omega) r h2
    ·
     rw [if_neg h3] at h2
     rw [if_neg h3]
     exact (greedy_same hV od ho hl k _ _ hU).2.1 i j hi hj r h2
def insrR (lt : Int → Int → Bool) : List Int → Int → List Int
 | [], x => [x]
 | y :: q, x => if lt x y = true then y :: insrR lt q x else x :: y :: q
theorem get_mid (p r : List Int) (x : Int) : (p ++ x :: r).toArray[p.length]! = x := by
 have h : p.length < (p ++ x :: r).toArray.size := by simp
 rw [getElem!_pos (p ++ x :: r).toArray p.length h, List.getElem_toArray, List.getElem_append_right (Nat.le_refl _)]
 simp
theorem swp_mid (p r : List Int) (y x : Int) : Go.Sort.swp (p ++ y :: x :: r).toArray (p.length + 1) p.length = (p ++ x :: y :: r).toArray := by
 have h1 := get_mid p (x :: r) y
 have h2 : (p ++ y :: x :: r).toArray[p.length + 1]! = x := by
  have := get_mid (p ++ [y]) r x
  rw [List.append_assoc, List.length_append] at this
  exact this
 unfold Go.Sort.swp
 rw [h1, h2]
 apply Array.ext'
 simp [Array.setIfInBounds, List.set_append_right]
theorem insInner_list (lt : Int → Int → Bool) (x : Int) : ∀ (q r : List Int), Go.Sort.insInner lt 0 q.length (q.reverse ++ x :: r).toArray = ((insrR lt q x).reverse ++ r).toArray
 | [], r => by simp [Go.Sort.insInner, insrR]
 | y :: q, r => by
  have ih := insInner_list lt x q (y :: r)
  have hl : (y :: q).reverse ++ x :: r = q.reverse ++ y :: x :: r := by simp
  have hq : q.length = q.reverse.length := (List.length_reverse).symm
  rw [hl, List.length_cons, Go.Sort.insInner]
  have h1 := get_mid q.reverse (x :: r) y
  have h2 : (q.reverse ++ y :: x :: r).toArray[q.reverse.length + 1]! = x := by
   have := get_mid (q.reverse ++ [y]) r x
   rw [List.append_assoc, List.length_append] at this
   exact this
  have hs := swp_mid q.reverse r y x
  rw [← hq] at h1 h2 hs
  rw [h1, h2, hs, decide_eq_true (show q.length + 1 > 0 by omega), Bool.true_and]
  by_cases hlt : lt x y = true
  ·
   rw [if_pos hlt, ih]
   simp only [insrR]
   rw [if_pos hlt]
   simp
  ·
   rw [if_neg hlt]
   simp only [insrR]
   rw [if_neg hlt]
   simp
/-- The first n places in order. -/
def insL (lt : Int → Int → Bool) : Nat → List Int
 | 0 => []
 | n + 1 => (insrR lt (insL lt n).reverse (n : Int)).reverse
theorem insrR_len (lt : Int → Int → Bool) (x : Int) : ∀ q : List Int, (insrR lt q x).length = q.length + 1
 | [] => rfl
 | y :: q => by
  simp only [insrR]
  split
  · simp only [List.length_cons, insrR_len lt x q]
  · rfl
theorem insL_len (lt : Int → Int → Bool) : ∀ n : Nat, (insL lt n).length = n
 | 0 => rfl
 | n + 1 => by simp only [insL, List.length_reverse, insrR_len, insL_len lt n]
theorem insOuter_list (lt : Int → Int → Bool) (n : Nat) : ∀ (d i : Nat), i + d = n → Go.Sort.insOuter lt 0 n i (insL lt i ++ ((List.range' i d).map fun j : Nat => (j : Int))).toArray = (insL lt n).toArray
 | 0, i, h => by
  obtain rfl : i = n := by omega
  rw [Go.Sort.insOuter, if_neg (by omega)]
  simp
 | d + 1, i, h => by
  have ih := insOuter_list lt n d (i + 1) (by omega)
  rw [Go.Sort.insOuter, if_pos (by omega)]
  have e : Go.Sort.insInner lt 0 i (insL lt i ++ ((List.range' i (d + 1)).map fun j : Nat => (j : Int))).toArray = (insL lt (i + 1) ++ ((List.range' (i + 1) d).map fun j : Nat => (j : Int))).toArray := by
   have h1 := insInner_list lt (i : Int) (insL lt i).reverse ((List.range' (i + 1) d).map fun j : Nat => (j : Int))
   rw [List.length_reverse, insL_len, List.reverse_reverse] at h1
   rw [List.range'_succ, List.map_cons, h1]
   rfl
  rw [e, ih]
theorem ordF_ins (L : List S25) (h : 0 < L.length) : ordF L = insL (ltI (ordC L)) L.length := by
 unfold ordF Go.Sort.insertionSort
 have e := insOuter_list (ltI (ordC L)) L.length (L.length - 1) 1 (by omega)
 have e2 : (insL (ltI (ordC L)) 1 ++ ((List.range' 1 (L.length - 1)).map fun j : Nat => (j : Int))) = ixs L.length := by
  obtain ⟨m, hm⟩ : ∃ m, L.length = m + 1 := ⟨L.length - 1, by omega⟩
  unfold ixs
  rw [hm, Nat.add_sub_cancel, List.range_eq_range', List.range'_succ, List.map_cons]
  rfl
 rw [e2] at e
 rw [show (0 : Nat) + 1 = 1 from rfl, e]
theorem dearer_g (a b : S25) (ha : okL a) (hb : okL b) (k : Nat) (hk : 10 < k) : pledgeref18_dearer.f k a.f0 a.f1 a.f2 a.f3 b.f0 b.f1 b.f2 b.f3 = some (chp b a) := by
 obtain ⟨_, a1, a2⟩ := ha
 obtain ⟨_, b1, b2⟩ := hb
 unfold pledgeref18_dearer.f chp
 by_cases h0 : a.f1 = 0
 ·
  rw [if_pos h0]
  by_cases h1 : b.f1 = 0
  · rw [if_pos h1, h1, h0]; rfl
  · rw [if_neg h1, if_pos h0, decide_eq_true (by omega), bne_iff_ne.2 h1]
 ·
  rw [if_neg h0]
  by_cases h1 : b.f1 = 0
  · rw [if_pos h1, if_pos h1, decide_eq_false (by omega)]
  ·
   rw [if_neg h1, if_neg h1, if_neg h0, RCmp_eq _ _ _ _ (by unfold In64; omega) (by unfold In64; omega) (by unfold In64; omega) (by unfold In64; omega) k (by omega), Option.bind_some]
   by_cases h2 : a.f2 * b.f1 < b.f2 * a.f1
   · rw [if_pos h2, decide_eq_false (by omega), decide_eq_false (by omega)]
   ·
    rw [if_neg h2]
    by_cases h3 : b.f2 * a.f1 < a.f2 * b.f1
    · rw [if_pos h3, decide_eq_true (by omega), decide_eq_true h3]
    · rw [if_neg h3, decide_eq_false (by omega), decide_eq_false h3]
theorem ltI_chp (L : List S25) (ok : ∀ x ∈ L, okL x) (i j : Nat) (hi : i < L.length) (hj : j < L.length) : ltI (ordC L) (i : Int) (j : Int) = chp (lt L i) (lt L j) := by
 unfold ltI ordC
 rw [rd_lt, rd_lt, chE _ _ (lt_ok ok i hi) (lt_ok ok j hj), chE _ _ (lt_ok ok j hj) (lt_ok ok i hi)]
 cases chp (lt L i) (lt L j) with
 | true => rfl
 | false => rw [if_neg (by simp)]; split <;> rfl
theorem ROrd_l1 (L : List S25) (ok : ∀ x ∈ L, okL x) (hL : L.length ≤ 8) (i : Nat) (hi : i < L.length) : ∀ (q r : List Int) (k : Nat), (∀ y ∈ q, 0 ≤ y ∧ y < (L.length : Int)) → q.length + r.length = i → 1100 + q.length < k →
  ∃ k', k ≤ k' + q.length + 1 ∧ pledgeref18_Order.l1 k L (q.reverse ++ r) (i : Int) (q.length : Int) = pledgeref18_Order.l0 k' L ((insrR (ltI (ordC L)) q (i : Int)).reverse ++ r) ((i + 1 : Nat) : Int)
 | [], r, k, hq, hl, hk => by
  obtain ⟨k, rfl⟩ : ∃ m, k = m + 1 := ⟨k - 1, by omega⟩
  have hr : r.length = i := by rw [List.length_nil] at hl; omega
  refine ⟨k, by simp, ?_⟩
  rw [show ([] : List Int).reverse ++ r = r from rfl, show ((([] : List Int).length : Nat) : Int) = 0 from rfl]
  simp only [pledgeref18_Order.l1, insrR]
  rw [if_neg (by omega), if_pos (by omega), if_pos (by omega), show ((0 : Int)).toNat = 0 from rfl, List.take_zero, List.drop_zero, ints_g [] (by simp) k (by omega), Option.bind_some, if_pos (by simp), Option.bind_some, Option.bind_some, if_pos (by simp; omega), wn i (by omega)]
  rfl
 | y :: q, r, k, hq, hl, hk => by
  obtain ⟨k, rfl⟩ : ∃ m, k = m + 1 := ⟨k - 1, by omega⟩
  rw [List.length_cons] at hl hk
  obtain ⟨y0, y1⟩ := hq y (List.mem_cons_self ..)
  obtain ⟨j, rfl⟩ := Int.eq_ofNat_of_zero_le y0
  have hj : j < L.length := by omega
  have ho : (((j : Int) :: q).reverse ++ r).length = i := by simp; omega
  have hw : wrap64 (((((j : Int) :: q).length : Nat) : Int) - 1) = (q.length : Int) := by rw [List.length_cons, w64m _ (by omega) (by omega)]; omega
  have hg : (((j : Int) :: q).reverse ++ r).getD q.length 0 = (j : Int) := by
   rw [List.reverse_cons, List.append_assoc, List.getD_eq_getElem?_getD, List.getElem?_append_right (by simp)]
   simp
  simp only [pledgeref18_Order.l1]
  rw [hw, if_pos (by rw [List.length_cons]; omega), if_pos (by omega), if_pos (by omega), rd_nat', hg, if_pos (by omega), if_pos (by omega), if_pos (by omega), if_pos (by omega), rd_lt, rd_lt, dearer_g _ _ (lt_ok ok j hj) (lt_ok ok i hi) k (by omega), Option.bind_some, ← ltI_chp L ok i j hi hj]
  simp only [insrR]
  by_cases hlt : ltI (ordC L) (i : Int) (j : Int) = true
  ·
   rw [if_pos hlt, if_pos hlt]
   obtain ⟨k', h1, h2⟩ := ROrd_l1 L ok hL i hi q ((j : Int) :: r) k (fun z hz => hq z (List.mem_cons_of_mem _ hz)) (by rw [List.length_cons]; omega) (by omega)
   refine ⟨k', by rw [List.length_cons]; omega, ?_⟩
   have e1 : ((j : Int) :: q).reverse ++ r = q.reverse ++ (j : Int) :: r := by simp
   have e2 : ((j : Int) :: insrR (ltI (ordC L)) q (i : Int)).reverse ++ r = (insrR (ltI (ordC L)) q (i : Int)).reverse ++ (j : Int) :: r := by simp
   rw [e1, e2, h2]
  ·
   rw [if_neg hlt, if_neg hlt]
   refine ⟨k, by omega, ?_⟩
   have ht : (((j : Int) :: q).reverse ++ r).take ((((j : Int) :: q).length : Nat) : Int).toNat = ((j : Int) :: q).reverse := by
    rw [Int.toNat_natCast, List.take_append_of_le_length (by simp), List.take_of_length_le (by simp)]
   have hd : (((j : Int) :: q).reverse ++ r).drop ((((j : Int) :: q).length : Nat) : Int).toNat = r := by
    rw [Int.toNat_natCast, List.drop_append_of_le_length (by simp), List.drop_of_length_le (by simp), List.nil_append]
   have hle : (((j : Int) :: q).reverse).length ≤ 8 := by rw [List.length_reverse, List.length_cons]; omega
   rw [if_pos (by omega), if_pos (by rw [ho, List.length_cons]; omega), ht, hd, ints_g _ (by omega) k (by omega), Option.bind_some, if_pos (by omega), Option.bind_some, Option.bind_some, if_pos (by rw [List.length_append, List.length_singleton]; omega), wn i (by omega)]
   congr 1
   simp
theorem insrR_mem (lt : Int → Int → Bool) (x : Int) : ∀ (q : List Int) (y : Int), y ∈ insrR lt q x → y = x ∨ y ∈ q
 | [], y, h => by simp only [insrR, List.mem_singleton] at h; exact .inl h
 | z :: q, y, h => by
  simp only [insrR] at h
  split at h
  ·
   rcases List.mem_cons.1 h with rfl | h
   · exact .inr (List.mem_cons_self ..)
   ·
    rcases insrR_mem lt x q y h with h | h
    · exact .inl h
    · exact .inr (List.mem_cons_of_mem _ h)
  · exact List.mem_cons.1 h
theorem insL_mem (lt : Int → Int → Bool) : ∀ (n : Nat) (y : Int), y ∈ insL lt n → 0 ≤ y ∧ y < (n : Int)
 | 0, y, h => by simp [insL] at h
 | n + 1, y, h => by
  simp only [insL, List.mem_reverse] at h
  rcases insrR_mem lt _ _ y h with rfl | h
  · omega
  · have := insL_mem lt n y (List.mem_reverse.1 h); omega
theorem ROrd_l0 (L : List S25) (ok : ∀ x ∈ L, okL x) (hL : L.length ≤ 8) : ∀ (d i k : Nat), i + d = L.length → 1200 + 20 * d < k → pledgeref18_Order.l0 k L (insL (ltI (ordC L)) i) (i : Int) = some (insL (ltI (ordC L)) L.length)
 | 0, i, k, h, hk => by
  obtain rfl : i = L.length := by omega
  obtain ⟨k, rfl⟩ : ∃ m, k = m + 1 := ⟨k - 1, by omega⟩
  simp only [pledgeref18_Order.l0]
  rw [if_neg (by omega)]
 | d + 1, i, k, h, hk => by
  obtain ⟨k, rfl⟩ : ∃ m, k = m + 1 := ⟨k - 1, by omega⟩
  have hlen := insL_len (ltI (ordC L)) i
  simp only [pledgeref18_Order.l0]
  rw [if_pos (by omega)]
  obtain ⟨k', h1, h2⟩ := ROrd_l1 L ok hL i (by omega) (insL (ltI (ordC L)) i).reverse [] k (fun y hy => by have := insL_mem _ i y (List.mem_reverse.1 hy); omega) (by rw [List.length_reverse, hlen]; rfl) (by rw [List.length_reverse, hlen]; omega)
  rw [List.reverse_reverse, List.append_nil, List.append_nil, List.length_reverse] at h2
  rw [List.length_reverse, hlen] at h1
  rw [h2]
  exact ROrd_l0 L ok hL d (i + 1) k' (by omega) (by omega)
theorem Order_same (L : List S25) (ok : ∀ x ∈ L, okL x) (h0 : 0 < L.length) (hL : L.length ≤ 8) (k : Nat) (hk : 1400 < k) : lots_Order.f L = some (ordF L) ∧ pledgeref18_Order.f k L = some (ordF L) := by
 refine ⟨by unfold lots_Order.f; rw [if_pos (ord_ok L h0 (by omega) ok)], ?_⟩
 unfold pledgeref18_Order.f
 have e := ROrd_l0 L ok hL L.length 0 k (by omega) (by omega)
 rw [show ((0 : Nat) : Int) = 0 from rfl] at e
 rw [show ([] : List Int) = insL (ltI (ordC L)) 0 from rfl, e, ordF_ins L h0]
/-- Nothing is taken, or of some lot one less is not enough. -/
def Qn (L : List S25) (C : List Int) (N : Int) (T : List Int) : Prop := (∀ p : Nat, p < L.length → T.getD p 0 = 0) ∨ ∃ p : Nat, p < L.length ∧ 0 < T.getD p 0 ∧ gW L C (T.set p (T.getD p 0 - 1)) < N
def fullT (L : List S25) (T : List Int) (j : Nat) : Prop := T.getD j 0 = (lt L j).f0 ∨ (lt L j).f1 = 0
def freeC (C : List Int) : Prop := ∀ p : Nat, C.getD p 0 ≤ 0
theorem g_in {L : List S25} {C : List Int} (P : OkP L C) (N : Int) (j : Nat) (hj : j < L.length) (od : List Int) (len : Int) (i : Nat) (hi : i ≤ 1000) :
  ∀ (d : Nat) (T : List Int) (k : Nat), okT L T → (lt L j).f0 - T.getD j 0 = d → Qn L C N T → 2 * d + 30 < k →
  ∃ (T' : List Int) (k' : Nat), k ≤ k' + 2 * d + 2 ∧ okT L T' ∧ Qn L C N T' ∧ gW L C T ≤ gW L C T' ∧ (∀ p : Nat, p ≠ j → T'.getD p 0 = T.getD p 0) ∧ T.getD j 0 ≤ T'.getD j 0 ∧ (freeC C → gW L C T' < N → fullT L T' j) ∧
   lots_Greedy.l1 k T (gW L C T) (j : Int) od len (i : Int) L C N = lots_Greedy.l0 k' T' (gW L C T') od len ((i + 1 : Nat) : Int) L C N := by
 intro d
 induction d with
 | zero =>
  intro T k hT hd hQ hk
  obtain ⟨k, rfl⟩ : ∃ m, k = m + 1 := ⟨k - 1, by omega⟩
  obtain ⟨k1, hk1⟩ : ∃ m, k = m + 1 := ⟨k - 1, by omega⟩
  have hT1 := hT.1
  refine ⟨T, k1, by omega, hT, hQ, Int.le_refl _, fun _ _ => rfl, Int.le_refl _, fun _ _ => .inl (by omega), ?_⟩
  have e2 : lots_Greedy.j2 k T (gW L C T) (j : Int) od len (i : Int) false L C N = lots_Greedy.l0 k1 T (gW L C T) od len ((i + 1 : Nat) : Int) L C N := by
   rw [hk1]; simp only [lots_Greedy.j2]; rw [if_neg (by simp), wn i (by omega)]
  simp only [lots_Greedy.l1]
  rw [rd_nat', rd_lt, decide_eq_false (show ¬ (T.getD j 0 < (lt L j).f0) by omega), e2]
  by_cases hn : gW L C T < N
  · rw [if_pos hn, if_pos (by omega), if_pos (by omega), if_pos (by omega)]
  · rw [if_neg hn]
 | succ d ih =>
  intro T k hT hd hQ hk
  obtain ⟨k, rfl⟩ : ∃ m, k = m + 1 := ⟨k - 1, by omega⟩
  obtain ⟨k1, hk1⟩ : ∃ m, k = m + 1 := ⟨k - 1, by omega⟩
  have hT1 := hT.1
  have hjT : j < T.length := by omega
  have e2 : lots_Greedy.j2 k T (gW L C T) (j : Int) od len (i : Int) false L C N = lots_Greedy.l0 k1 T (gW L C T) od len ((i + 1 : Nat) : Int) L C N := by
   rw [hk1]; simp only [lots_Greedy.j2]; rw [if_neg (by simp), wn i (by omega)]
  by_cases hn : gW L C T < N
  ·
   obtain ⟨t0, t1⟩ := hT.2 j hj
   have okj := lt_ok P.lots j hj
   have hu : (lt L j).f0 ≤ 1000 := okj.1.2
   have hY : okT L (T.set j (T.getD j 0 + 1)) := ok_set hT j _ hj (by omega) (by omega)
   have ew : wrap64 (T.getD j 0 + 1) = T.getD j 0 + 1 := w64s _ (by omega) (by omega)
   have ey : (T.set j (T.getD j 0 + 1)).getD j 0 = T.getD j 0 + 1 := by rw [getD_set T j j _ hjT, if_pos rfl]
   have eb : (T.set j (T.getD j 0 + 1)).set j (wrap64 ((T.set j (T.getD j 0 + 1)).getD j 0 - 1)) = T := by
    rw [ey, show T.getD j 0 + 1 - 1 = T.getD j 0 by omega, w64s _ (by omega) (by omega)]
    exact set_back T j _ hjT
   have hW := worth_g P hY N k1 (by omega)
   have e1 : lots_Greedy.l1 (k + 1) T (gW L C T) (j : Int) od len (i : Int) L C N = lots_Greedy.j2 k T (gW L C T) (j : Int) od len (i : Int) true L C N := by
    simp only [lots_Greedy.l1]
    rw [if_pos hn, if_pos (by omega), if_pos (by omega), if_pos (by omega), rd_nat', rd_lt, decide_eq_true (by omega)]
   have e3 : lots_Greedy.j2 k T (gW L C T) (j : Int) od len (i : Int) true L C N = if gW L C (T.set j (T.getD j 0 + 1)) ≤ gW L C T then lots_Greedy.l0 k1 T (gW L C T) od len ((i + 1 : Nat) : Int) L C N else lots_Greedy.l1 k1 (T.set j (T.getD j 0 + 1)) (gW L C (T.set j (T.getD j 0 + 1))) (j : Int) od len (i : Int) L C N := by
    rw [hk1]; simp only [lots_Greedy.j2]
    rw [if_pos trivial, if_pos (by omega), if_pos (by omega), Int.toNat_natCast, rd_nat', ew, Option.bind_some, hW, Option.bind_some, rd_nat', eb, wn i (by omega)]
   rw [e1, e3]
   by_cases hb : gW L C (T.set j (T.getD j 0 + 1)) ≤ gW L C T
   ·
    rw [if_pos hb]
    refine ⟨T, k1, by omega, hT, hQ, Int.le_refl _, fun _ _ => rfl, Int.le_refl _, fun hF _ => .inr ?_, rfl⟩
    have hf := gV_free L C T hF j hjT C.length
    have hg := P.grp _ (lt_mem L j hj)
    rw [if_pos ⟨hg.2, hg.1⟩] at hf
    have := okj.2.1.1
    unfold gW at hb
    omega
   ·
    rw [if_neg hb]
    have hQ' : Qn L C N (T.set j (T.getD j 0 + 1)) := .inr ⟨j, hj, by omega, by rw [ey, show T.getD j 0 + 1 - 1 = T.getD j 0 by omega, set_back T j _ hjT]; exact hn⟩
    obtain ⟨T', k', a1, a2, a3, a4, a5, a6, a7, a8⟩ := ih (T.set j (T.getD j 0 + 1)) k1 hY (by omega) hQ' (by omega)
    refine ⟨T', k', by omega, a2, a3, by omega, fun p hp => ?_, by omega, a7, a8⟩
    rw [a5 p hp, getD_set T j p _ hjT, if_neg hp]
  ·
   refine ⟨T, k1, by omega, hT, hQ, Int.le_refl _, fun _ _ => rfl, Int.le_refl _, fun _ h => absurd h hn, ?_⟩
   simp only [lots_Greedy.l1]
   rw [if_neg hn, e2]
/-- From place i of the order on. -/
theorem g_out {L : List S25} {C : List Int} (P : OkP L C) (N : Int) (od : List Nat) (ho : ∀ p ∈ od, p < L.length) (hlen : od.length ≤ 8) :
  ∀ (d i : Nat) (T : List Int) (k : Nat), i + d = od.length → okT L T → Qn L C N T → (freeC C → gW L C T < N → ∀ q : Nat, q < i → fullT L T (od.getD q 0)) → 2010 * d + 40 < k →
  ∃ T' : List Int, okT L T' ∧ Qn L C N T' ∧ (freeC C → gW L C T' < N → ∀ q : Nat, q < od.length → fullT L T' (od.getD q 0)) ∧
   lots_Greedy.l0 k T (gW L C T) (od.map (fun p : Nat => (p : Int))) (od.length : Int) (i : Int) L C N = some (if gW L C T' < N then ([], false) else (T', true)) := by
 intro d
 induction d with
 | zero =>
  intro i T k hd hT hQ hF hk
  obtain ⟨k, rfl⟩ : ∃ m, k = m + 1 := ⟨k - 1, by omega⟩
  refine ⟨T, hT, hQ, fun h1 h2 q hq => hF h1 h2 q (by omega), ?_⟩
  simp only [lots_Greedy.l0]
  rw [if_neg (by omega)]
  by_cases h : gW L C T < N
  · rw [if_pos h, if_pos h]
  · rw [if_neg h, if_neg h]
 | succ d ih =>
  intro i T k hd hT hQ hF hk
  obtain ⟨k, rfl⟩ : ∃ m, k = m + 1 := ⟨k - 1, by omega⟩
  have hio : i < od.length := by omega
  have hr : rd (od.map (fun p : Nat => (p : Int))) (i : Int) = ((od.getD i 0 : Nat) : Int) := by
   rw [rd_nat', List.getD_eq_getElem?_getD, List.getElem?_map, List.getD_eq_getElem?_getD, List.getElem?_eq_getElem hio]; rfl
  have hj : od.getD i 0 < L.length := by
   apply ho; rw [List.getD_eq_getElem?_getD, List.getElem?_eq_getElem hio]; exact List.getElem_mem hio
  obtain ⟨j, hjd⟩ : ∃ j, j = od.getD i 0 := ⟨_, rfl⟩
  rw [← hjd] at hj hr
  obtain ⟨t0, t1⟩ := hT.2 j hj
  have hu : (lt L j).f0 ≤ 1000 := (lt_ok P.lots j hj).1.2
  obtain ⟨m, hm⟩ := Int.eq_ofNat_of_zero_le (show 0 ≤ (lt L j).f0 - T.getD j 0 by omega)
  obtain ⟨T1, k1, a1, a2, a3, a4, a5, a6, a7, a8⟩ := g_in P N j hj (od.map (fun p : Nat => (p : Int))) (od.length : Int) i (by omega) m T k hT hm hQ (by omega)
  obtain ⟨T', b1, b2, b3, b4⟩ := ih (i + 1) T1 k1 (by omega) a2 a3 (fun h1 h2 q hq => by
   by_cases e : od.getD q 0 = j
   · rw [e]; exact a7 h1 h2
   ·
    have hqi : q < i := by
     by_cases e2 : q = i
     · subst e2; exact absurd hjd.symm e
     · omega
    have h3 := hF h1 (by omega) q hqi
    unfold fullT at h3 ⊢
    rw [a5 _ e]
    exact h3) (by omega)
  refine ⟨T', b1, b2, b3, ?_⟩
  simp only [lots_Greedy.l0]
  rw [if_pos (by omega), if_pos (by omega), if_pos (by rw [List.length_map]; omega), hr, a8, b4]
theorem gS_full {L : List S25} {T U : List Int} (h : ∀ i : Nat, i < L.length → T.getD i 0 * (lt L i).f1 = U.getD i 0 * (lt L i).f1) (g : Int) : ∀ i : Nat, i ≤ L.length → gS L T g i = gS L U g i
 | 0, _ => rfl
 | i + 1, hi => by simp only [gS]; rw [gS_full h g i (by omega), h i (by omega)]
theorem gV_full {L : List S25} {C T U : List Int} (hT : okT L T) (hU : okT L U) (h : ∀ i : Nat, i < L.length → T.getD i 0 * (lt L i).f1 = U.getD i 0 * (lt L i).f1) : ∀ m : Nat, gV L C T m = gV L C U m
 | 0 => rfl
 | m + 1 => by simp only [gV]; rw [gV_full hT hU h m, hT.1, hU.1, gS_full h _ L.length (Nat.le_refl _)]
theorem gW_full {L : List S25} {C T : List Int} (ok : ∀ x ∈ L, okL x) (hT : okT L T) (h : ∀ j : Nat, j < L.length → fullT L T j) : gW L C T = gW L C (wh L) := by
 unfold gW
 refine gV_full hT (wh_ok ok) (fun i hi => ?_) _
 rw [wh_get L i hi]
 rcases h i hi with h1 | h1
 · rw [h1]
 · rw [h1, Int.mul_zero, Int.mul_zero]
/-- Nothing. -/
def no (L : List S25) : List Int := List.replicate L.length 0
theorem no_get (L : List S25) (i : Nat) : (no L).getD i 0 = 0 := by
 unfold no; rw [List.getD_eq_getElem?_getD, List.getElem?_replicate]; split <;> rfl
theorem no_ok {L : List S25} (ok : ∀ x ∈ L, okL x) : okT L (no L) := by
 refine ⟨by unfold no; exact List.length_replicate, fun i hi => ?_⟩
 rw [no_get]
 have := (lt_ok ok i hi).1
 omega
open Go.Sort in
theorem insInner_perm (f : Int → Int → Bool) (a : Nat) : ∀ (j : Nat) (d : Array Int), a ≤ j → j < d.size → (insInner f a j d).toList.Perm d.toList
 | 0, d, _, _ => by rw [insInner]
 | j + 1, d, ha, hj => by
  rw [insInner]
  by_cases h : (decide (j + 1 > a) && f d[j + 1]! d[j]!) = true
  ·
   rw [if_pos h]
   have hja : j + 1 > a := by rw [Bool.and_eq_true] at h; exact of_decide_eq_true h.1
   have hp := (swp_permIn d 0 d.size (j + 1) j (by omega) hj (by omega) (by omega) (Nat.le_refl _)).2.2
   have hs : (swp d (j + 1) j).size = d.size := size_swp d (j + 1) j
   have ih := insInner_perm f a j (swp d (j + 1) j) (by omega) (by rw [hs]; omega)
   refine ih.trans ?_
   have e : ∀ x : Array Int, (x.extract 0 x.size) = x := fun x => by simp
   rw [e] at hp
   have e2 := e (swp d (j + 1) j)
   rw [hs] at e2
   rw [e2] at hp
   exact hp
  · rw [if_neg h]
open Go.Sort in
theorem insOuter_perm (f : Int → Int → Bool) (a b : Nat) : ∀ (n i : Nat) (d : Array Int), b - i = n → a ≤ i → b ≤ d.size → (insOuter f a b i d).toList.Perm d.toList
 | 0, i, d, h, _, _ => by rw [insOuter, if_neg (by omega)]
 | n + 1, i, d, h, ha, hb => by
  rw [insOuter, if_pos (by omega)]
  have h1 := insInner_perm f a i d ha (by omega)
  have h2 := insOuter_perm f a b n (i + 1) (insInner f a i d) (by omega) (by omega) (by have := h1.length_eq; simp only [Array.length_toList] at this; omega)
  exact h2.trans h1
theorem ordF_perm (L : List S25) : (ordF L).Perm (ixs L.length) := by
 unfold ordF Go.Sort.insertionSort
 exact insOuter_perm _ 0 L.length _ (0 + 1) _ rfl (by omega) (by rw [List.size_toArray, ixs_len]; exact Nat.le_refl _)
/-- The order, as places. -/
theorem ord_nat (L : List S25) : ∃ od : List Nat, ordF L = od.map (fun p : Nat => (p : Int)) ∧ od.length = L.length ∧ (∀ p ∈ od, p < L.length) ∧ ∀ j : Nat, j < L.length → j ∈ od := by
 have hp := ordF_perm L
 have hm : ∀ x : Int, x ∈ ordF L ↔ ∃ p : Nat, p < L.length ∧ (p : Int) = x := fun x => by
  rw [hp.mem_iff]; unfold ixs; rw [List.mem_map]
  constructor
  · rintro ⟨p, h1, h2⟩; exact ⟨p, List.mem_range.1 h1, h2⟩
  · rintro ⟨p, h1, h2⟩; exact ⟨p, List.mem_range.2 h1, h2⟩
 refine ⟨(ordF L).map Int.toNat, ?_, by rw [List.length_map, hp.length_eq, ixs_len], ?_, ?_⟩
 ·
  rw [List.map_map]
  refine (List.map_id _).symm.trans (List.map_congr_left fun x hx => ?_)
  obtain ⟨p, _, rfl⟩ := (hm x).1 hx
  rfl
 ·
  intro p h
  obtain ⟨x, hx, rfl⟩ := List.mem_map.1 h
  obtain ⟨q, hq, rfl⟩ := (hm x).1 hx
  rw [Int.toNat_natCast]; exact hq
 ·
  intro j hj
  exact List.mem_map.2 ⟨(j : Int), (hm _).2 ⟨j, hj, rfl⟩, rfl⟩
theorem greedy_g {L : List S25} {C : List Int} {N : Int} (hV : lots_Valid.f L C N = some none) (k : Nat) (hk : 20000 < k) : ∃ T : List Int, okT L T ∧ Qn L C N T ∧ (freeC C → gW L C T < N → gW L C T = gW L C (wh L)) ∧
  lots_Greedy.f k L C N = some (if gW L C T < N then ([], false) else (T, true)) := by
 have P := okP_of hV
 have hl8 := P.l8
 have hl0 := (Valid_none hV).1.1
 obtain ⟨od, e1, e2, e3, e4⟩ := ord_nat L
 obtain ⟨T, h1, h2, h3, h4⟩ := g_out P N od e3 (by omega) od.length 0 (no L) k (by omega) (no_ok P.lots) (.inl fun p _ => no_get L p) (fun _ _ q hq => absurd hq (Nat.not_lt_zero _)) (by omega)
 refine ⟨T, h1, h2, fun hF hn => gW_full P.lots h1 fun j hj => ?_, ?_⟩
 ·
  obtain ⟨q, hq, e⟩ := List.getElem_of_mem (e4 j hj)
  have := h3 hF hn q hq
  rw [List.getD_eq_getElem?_getD, List.getElem?_eq_getElem hq] at this
  rw [← e]; exact this
 ·
  unfold lots_Greedy.f
  rw [hV]
  simp only [Option.bind_some, Option.isNone_none]
  rw [if_pos trivial, if_pos (by omega), if_pos (by omega), Int.toNat_natCast]
  show (lots_worth.f k L C N (no L)).bind _ = _
  rw [worth_g P (no_ok P.lots) N k (by omega), Option.bind_some]
  unfold lots_Order.f
  rw [if_pos (ord_ok L hl0 (by omega) P.lots), Option.bind_some, e1, List.length_map]
  exact h4
theorem Is_none (code : Int) : pledgesee_Is.f none code = some (decide (0 = code)) := by
 unfold pledgesee_Is.f pledgeref_Bare.f pledgesee_Same.f pledgesee_Fault.f pledgeref_None.f pledgeref_SameFault.f
 by_cases h : 0 = code <;> simp [h]
theorem Is_some (c code : Int) (h1 : 101 ≤ c) (h2 : c ≤ 121) : pledgesee_Is.f (some c) code = some (decide (c = code)) := by
 unfold pledgesee_Is.f pledgeref_Bare.f pledgesee_Same.f pledgesee_Fault.f pledgesee_sentinel.f pledgeref_Bare.f pledgeref_SameFault.f
 by_cases h : c = code <;> simp [h, h1, h2] <;> simp [← h, h1, h2]
theorem gW_no (L : List S25) (C : List Int) : gW L C (no L) = 0 := by
 have e0 : ∀ (g : Int) (i : Nat), gS L (no L) g i = 0 := fun g i => by
  induction i with
  | zero => rfl
  | succ i ih => simp only [gS]; rw [ih, no_get, Int.zero_mul]; simp
 have e1 : ∀ m : Nat, gV L C (no L) m = 0 := fun m => by
  induction m with
  | zero => rfl
  | succ m ih =>
   simp only [gV]; rw [ih, e0]; unfold cap1 mn; split
   · rw [if_neg (by omega)]; rfl
   · rfl
 exact e1 _
theorem RGreedy_g {L : List S25} {C : List Int} {N : Int} (hV : lots_Valid.f L C N = some none) (k : Nat) (hk : 20000 < k) (r : List Int × Bool) (h : lots_Greedy.f k L C N = some r) : pledgeref18_Greedy.f (k + 300) L C N = some r := by
 have P := okP_of hV
 have hl8 := P.l8
 have hl0 := (Valid_none hV).1.1
 obtain ⟨o1, o2⟩ := Order_same L P.lots hl0 hl8 (k + 300) (by omega)
 have hlen : (ordF L).length = L.length := by rw [(ordF_perm L).length_eq, ixs_len]
 have hod : ∀ i : Nat, i < (ordF L).length → 0 ≤ (ordF L).getD i 0 ∧ (ordF L).getD i 0 < (L.length : Int) := fun i hi => by
  have hm : (ordF L).getD i 0 ∈ ixs L.length := (ordF_perm L).mem_iff.1 (by rw [List.getD_eq_getElem?_getD, List.getElem?_eq_getElem hi]; exact List.getElem_mem hi)
  unfold ixs at hm
  obtain ⟨p, hp, e⟩ := List.mem_map.1 hm
  have := List.mem_range.1 hp
  omega
 unfold lots_Greedy.f at h
 rw [hV] at h
 simp only [Option.bind_some, Option.isNone_none] at h
 rw [if_pos trivial, if_pos (by omega), if_pos (by omega), Int.toNat_natCast] at h
 have h2 : ((lots_worth.f k L C N (no L)).bind fun t149 => ((lots_Order.f L).bind fun t150 => (lots_Greedy.l0 k (no L) t149 t150 (t150.length : Int) 0 L C N))) = some r := h
 rw [worth_g P (no_ok P.lots) N k (by omega), Option.bind_some, o1, Option.bind_some, gW_no] at h2
 unfold pledgeref18_Greedy.f
 rw [RV_ok hV (k + 300) (by omega), Option.bind_some, if_pos rfl, if_pos (by omega), if_pos (by omega), Int.toNat_natCast, o2, Option.bind_some]
 exact (greedy_same hV (ordF L) hod (by omega) k (no L) 0 (no_ok P.lots)).1 0 (by omega) r h2
theorem ints_same_l0 (xs : List Int) (hl : xs.length < 1000000) : ∀ (d i k : Nat), i + d = xs.length → d < k → pledgeref_SameInts.l0 k xs xs (i : Int) = some true
 | 0, i, k, h, hk => by
  obtain ⟨k, rfl⟩ : ∃ m, k = m + 1 := ⟨k - 1, by omega⟩
  simp only [pledgeref_SameInts.l0]
  rw [if_neg (by omega)]
 | d + 1, i, k, h, hk => by
  obtain ⟨k, rfl⟩ : ∃ m, k = m + 1 := ⟨k - 1, by omega⟩
  simp only [pledgeref_SameInts.l0]
  rw [if_pos (by omega), if_pos (by omega), if_pos (by omega), if_pos trivial, wn i (by omega)]
  exact ints_same_l0 xs hl d (i + 1) k (by omega) (by omega)
theorem ints_same (xs : List Int) (hl : xs.length < 1000) (k : Nat) (hk : 1000 < k) : pledgeref_SameInts.f k xs xs = some true := by
 unfold pledgeref_SameInts.f
 rw [if_pos rfl]
 exact ints_same_l0 xs (by omega) xs.length 0 k (by omega) (by omega)
theorem whole_any (L : List S25) (C : List Int) (N : Int) (hL : L.length ≤ 20) (k : Nat) (hk : 40 < k) : lots_whole.f k L C N = some (wh L) := by
 have w0 : ∀ (d i k : Nat), i + d = L.length → lots_whole.l0 (k + d + 1) ((wh L).take i) L (L.length : Int) (i : Int) = some (wh L) := by
  intro d
  induction d with
  | zero =>
   intro i k h
   obtain rfl : i = L.length := by omega
   simp only [Nat.add_zero, lots_whole.l0]
   rw [if_neg (by omega), List.take_of_length_le (by unfold wh; rw [List.length_map]; omega)]
  | succ d ih =>
   intro i k h
   have ih := ih (i + 1) k (by omega)
   obtain ⟨K, hK⟩ : ∃ K, K = k + d + 1 := ⟨_, rfl⟩
   rw [← hK] at ih
   rw [show k + (d + 1) + 1 = K + 1 by omega]
   simp only [lots_whole.l0]
   rw [if_pos (by omega), if_pos (by omega), if_pos (by omega), if_pos (by rw [List.length_take]; omega), rd_lt, wh_take L i (by omega), wn i (by omega), ih]
 unfold lots_whole.f
 obtain ⟨k1, rfl⟩ : ∃ m, k = m + L.length + 1 := ⟨k - L.length - 1, by omega⟩
 exact w0 L.length 0 k1 (by omega)
theorem RFull_any (L : List S25) (C : List Int) (N : Int) (hL : L.length ≤ 20) (k : Nat) (hk : 40 < k) : pledgeref18_Full.f k L C N = some (wh L) := by
 have w0 : ∀ (d i k : Nat), i + d = L.length → pledgeref18_Full.l0 (k + d + 1) ((wh L).take i) (i : Int) L C N = some (wh L) := by
  intro d
  induction d with
  | zero =>
   intro i k h
   simp only [Nat.add_zero, pledgeref18_Full.l0]
   rw [if_neg (by omega), List.take_of_length_le (by unfold wh; rw [List.length_map]; omega)]
  | succ d ih =>
   intro i k h
   have ih := ih (i + 1) k (by omega)
   obtain ⟨K, hK⟩ : ∃ K, K = k + d + 1 := ⟨_, rfl⟩
   rw [← hK] at ih
   rw [show k + (d + 1) + 1 = K + 1 by omega]
   simp only [pledgeref18_Full.l0]
   rw [if_pos (by omega), if_pos (by omega), if_pos (by rw [List.length_take]; omega), rd_lt, wh_take L i (by omega), wn i (by omega), ih]
 unfold pledgeref18_Full.f
 obtain ⟨k1, rfl⟩ : ∃ m, k = m + L.length + 1 := ⟨k - L.length - 1, by omega⟩
 exact w0 L.length 0 k1 (by omega)
theorem bad_fits {L : List S25} {C : List Int} {N : Int} (c : Int) (h : lots_Valid.f L C N = some (some c)) (k : Nat) (hk : 1 < k) (T : List Int) : lots_fits.f k L C N T = some false := by
 obtain ⟨k1, rfl⟩ : ∃ m, k = m + 1 := ⟨k - 1, by omega⟩
 unfold lots_fits.f; rw [h, Option.bind_some, if_neg (by simp)]; simp only [lots_fits.j0]; rw [if_pos trivial]
theorem bad_lW {L : List S25} {C : List Int} {N : Int} (c : Int) (h : lots_Valid.f L C N = some (some c)) (k : Nat) (hk : 1 < k) (T : List Int) : lots_Worth.f k L C N T = some (0, false) := by
 unfold lots_Worth.f; rw [bad_fits c h k hk T]; rfl
theorem bad_lC {L : List S25} {C : List Int} {N : Int} (c : Int) (h : lots_Valid.f L C N = some (some c)) (k : Nat) (hk : 1 < k) (T : List Int) : lots_Cost.f k L C N T = some (0, false) := by
 unfold lots_Cost.f; rw [bad_fits c h k hk T]; rfl
theorem bad_lM {L : List S25} {C : List Int} {N : Int} (c : Int) (h : lots_Valid.f L C N = some (some c)) (hL : L.length ≤ 20) (k : Nat) (hk : 40 < k) : lots_Most.f k L C N = some 0 := by
 unfold lots_Most.f; rw [whole_any L C N hL k hk, Option.bind_some, bad_lW c h k (by omega)]; rfl
theorem bad_rM {L : List S25} {C : List Int} {N : Int} (c : Int) (hc : c ≠ 0) (k : Nat) (h : pledgeref18_Valid.f k L C N = some c) (hL : L.length ≤ 20) (hk : 40 < k) : pledgeref18_Most.f k L C N = some 0 := by
 unfold pledgeref18_Most.f; rw [RFull_any L C N hL k hk, Option.bind_some, bad_Worth c hc k h (by omega)]; rfl
theorem bad_lG {L : List S25} {C : List Int} {N : Int} (c : Int) (h : lots_Valid.f L C N = some (some c)) (k : Nat) : lots_Greedy.f k L C N = some ([], false) := by
 unfold lots_Greedy.f; rw [h, Option.bind_some, if_neg (by simp)]
theorem bad_rG {L : List S25} {C : List Int} {N : Int} (c : Int) (hc : c ≠ 0) (k : Nat) (h : pledgeref18_Valid.f k L C N = some c) : pledgeref18_Greedy.f k L C N = some ([], false) := by
 unfold pledgeref18_Greedy.f; rw [h, Option.bind_some, if_neg hc]
theorem Is_get (e : Option Int) (h : e = none ∨ ∃ x, e = some x ∧ 101 ≤ x ∧ x ≤ 121) : pledgesee_Is.f e (e.getD 0) = some true := by
 rcases h with rfl | ⟨x, rfl, h1, h2⟩
 · rw [Is_none]; rfl
 · rw [Is_some x _ h1 h2]; simp
theorem good_C {L : List S25} {C : List Int} {N : Int} (hV : lots_Valid.f L C N = some none) (T : List Int) (k : Nat) (hk : 20 < k) : lots_Cost.f k L C N T = some (if fitB L T = true then (gK L T L.length, true) else (0, false)) := by
 by_cases h : fitB L T = true
 · rw [if_pos h, Cost_g hV ((fitB_iff L T).1 h) k hk]
 ·
  rw [if_neg h]
  unfold lots_Cost.f; rw [fits_g hV T k hk, Option.bind_some, if_neg h]
end Go.Proofs.YtlalofmilhakjaaDoor.PrLotsSay
namespace Go.Proofs.YtlalofmilhakjaaDoor.Pr
open Go.RowKit Go.Proofs.YtlalofmilhakjaaDoor.ELotsSay Go.Proofs.YtlalofmilhakjaaDoorW.PrintWords Go.Proofs.YtlalofmilhakjaaDoorW.PrintLast Go.Proofs.YtlalofmilhakjaaDoorW.PrintMore Go.Proofs.YtlalofmilhakjaaDoorW.PrintOpen Go.Proofs.YtlalofmilhakjaaDoor.PrLotsSay
theorem LotsSay : pledgelaw18_LotsSay.Pure := by
 intro L C N T _ _ _ _ _
 obtain ⟨k, hk⟩ : ∃ k : Nat, 20000 < k := ⟨20001, by omega⟩
 refine ⟨k + 300, ?_⟩
 unfold pledgelaw18_LotsSay.f
 rw [first_eq (k + 300) (by omega), Option.bind_some, if_pos rfl]
 by_cases hl : (L.length : Int) ≤ 20
 rotate_left
 ·
  have e : pledgelaw18_light.f L C N = some false := by unfold pledgelaw18_light.f; rw [if_neg hl]
  rw [e, Option.bind_some, if_neg (by simp)]
 by_cases hc : (C.length : Int) ≤ 20
 rotate_left
 ·
  have e : pledgelaw18_light.f L C N = some false := by unfold pledgelaw18_light.f; rw [if_pos hl, decide_eq_false hc]
  rw [e, Option.bind_some, if_neg (by simp)]
 have e : pledgelaw18_light.f L C N = some true := by unfold pledgelaw18_light.f; rw [if_pos hl, decide_eq_true hc]
 rw [e, Option.bind_some, if_pos rfl]
 by_cases ht : 20 < T.length
 · rw [if_pos ht]
 rw [if_neg ht]
 obtain ⟨v, hv, hvc, hR⟩ := RValid_eq L C N
 have hR := hR (k + 300) (by omega)
 rw [hR, Option.bind_some, hv, Option.bind_some]
 have his : pledgesee_Is.f v (v.getD 0) = some true := Is_get v (by rcases hvc with rfl | rfl | rfl <;> simp)
 cases v with
 | some c =>
  have hc0 : c ≠ 0 := by rcases hvc with h | h | h <;> simp at h <;> omega
  rw [Option.getD_some] at hR his ⊢
  rw [bad_lW c hv _ (by omega) T, Option.bind_some, bad_lC c hv _ (by omega) T, Option.bind_some, bad_Fits c hv _ (by omega) T, Option.bind_some, bad_lM c hv (by omega) _ (by omega), Option.bind_some, bad_lG c hv _, Option.bind_some]
  rw [if_pos ⟨bad_Worth c hc0 _ hR (by omega) T, bad_Cost c hc0 _ hR (by omega) T, his, bad_RFits c hc0 _ hR (by omega) T, bad_rM c hc0 _ hR (by omega) (by omega), bad_rG c hc0 _ hR, ints_same [] (by simp) _ (by omega)⟩]
 | none =>
  have P := okP_of hv
  rw [Option.getD_none] at hR his ⊢
  obtain ⟨X, hX, _, _, hG⟩ := greedy_g hv (k + 300) (by omega)
  obtain ⟨Y, hY, _, _, hG2⟩ := greedy_g hv k (by omega)
  have hup : lots_Greedy.f (k + 300) L C N = lots_Greedy.f k L C N := by
   have h1 : ∀ m : Nat, ∀ r, lots_Greedy.f k L C N = some r → lots_Greedy.f (k + m) L C N = some r := fun m => by
    induction m with
    | zero => exact fun r h => h
    | succ m ih => exact fun r h => lots_Greedy.mono _ _ _ _ _ (ih r h)
   rw [hG2]; exact h1 300 _ hG2
  obtain ⟨g, hg⟩ : ∃ g, lots_Greedy.f k L C N = some g := ⟨_, hG2⟩
  have hgl : g.1.length < 1000 := by
   rw [hG2] at hg
   have e := Option.some.inj hg
   have hY1 := hY.1
   have h8 := P.l8
   rw [← e]
   split
   · simp
   · simp only []; omega
  rw [Worth_g hv T _ (by omega), Option.bind_some, good_C hv T _ (by omega), Option.bind_some, Fits_b hv T _ (by omega), Option.bind_some, Most_g hv _ (by omega), Option.bind_some, hup, hg, Option.bind_some]
  rw [if_pos ⟨RWorth_g hv T _ (by omega), RCost_g hv T _ (by omega), his, RFits_g hv T _ (by omega), RMost_g hv _ (by omega), RGreedy_g hv k hk _ hg, ints_same _ hgl _ (by omega)⟩]
end Go.Proofs.YtlalofmilhakjaaDoor.Pr
