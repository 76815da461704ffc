/- One unit more is worth no less, at most its value more, and costs its cost more; a cap that is not come to is none: the pure statement of LotsGrow, for all numbers. Conditions: none beyond the statement's own. -/
import Derived.Test.YtlalofmilhakjaaDoorELotsGrowx
import Derived.Test.YtlalofmilhakjaaDoorOpen
namespace Go.Proofs.YtlalofmilhakjaaDoor.PrLotsGrow
open Go.RowKit Go.Proofs.YtlalofmilhakjaaDoor.ELotsGrow Go.Proofs.YtlalofmilhakjaaDoorW.PrintWords Go.Proofs.YtlalofmilhakjaaDoorW.PrintLast Go.Proofs.YtlalofmilhakjaaDoorW.PrintMore Go.Proofs.YtlalofmilhakjaaDoorW.PrintOpen
set_option linter.unusedSimpArgs false
set_option linter.unusedVariables false
theorem w64 (x : Int) (h1 : -9223372036854775808 ≤ x) (h2 : x ≤ 9223372036854775807) : wrap64 x = x := by unfold wrap64; omega
theorem w64s (x : Int) (h1 : -1000000000 ≤ x) (h2 : x ≤ 1000000000) : wrap64 x = x := by unfold wrap64; omega
theorem wu64 (n : Int) : IntKind.u64.wrap n = n % 18446744073709551616 := by simp [IntKind.wrap, IntKind.bits, IntKind.signed]
theorem rd_nat (l : List Int) (i : Nat) : rd l (i : Int) = l.getD i 0 := by unfold rd; rw [Int.toNat_natCast]
theorem rd_mem (l : List Int) (i : Nat) (h : i < l.length) : rd l (i : Int) ∈ l := by
  rw [rd_nat, List.getD_eq_getElem?_getD, List.getElem?_eq_getElem h]; exact List.getElem_mem h
theorem take_snoc_sum (l : List Int) (i : Nat) (h : i < l.length) : (l.take (i + 1)).sum = (l.take i).sum + rd l (i : Int) := by
  rw [List.take_succ_eq_append_getElem h, List.sum_append, rd_nat, List.getD_eq_getElem?_getD, List.getElem?_eq_getElem h]; simp
theorem and32 (x : Int) (h0 : 0 ≤ x) (h1 : x < 18446744073709551616) : Go.bits .and .u64 x 4294967295 = x % 4294967296 := by
  have := bits_mask .u64 64 (by decide) (fun n a b => by rw [wu64]; omega) 32 (by decide) x h0 (by omega)
  simpa using this
theorem pb (x y : Int) (hx : 0 ≤ x) (hx1 : x < 4294967296) (hy : 0 ≤ y) (hy1 : y < 4294967296) : 0 ≤ x * y ∧ x * y ≤ 18446744065119617025 := by
  refine ⟨Int.mul_nonneg hx hy, ?_⟩
  have := Int.mul_le_mul (show x ≤ 4294967295 by omega) (show y ≤ 4294967295 by omega) hy (by omega)
  omega
theorem split32 (a b : Int) : a * b = (a / 4294967296) * (b / 4294967296) * 18446744073709551616 + ((a / 4294967296) * (b % 4294967296) + (a % 4294967296) * (b / 4294967296)) * 4294967296 + (a % 4294967296) * (b % 4294967296) := by
  have h1 : a = (a / 4294967296) * 4294967296 + a % 4294967296 := by omega
  have h2 : b = (b / 4294967296) * 4294967296 + b % 4294967296 := by omega
  generalize a / 4294967296 = a1 at *
  generalize a % 4294967296 = a0 at *
  generalize b / 4294967296 = b1 at *
  generalize b % 4294967296 = b0 at *
  subst h1 h2
  grind
theorem Wide_eq (a b : Int) (ha0 : 0 ≤ a) (ha1 : a < 18446744073709551616) (hb0 : 0 ≤ b) (hb1 : b < 18446744073709551616) :
    fix_Wide.f a b = some (a * b / 18446744073709551616, a * b % 18446744073709551616) := by
  unfold fix_Wide.f
  simp only [wu64, and32 a ha0 ha1, and32 b hb0 hb1]
  have e := split32 a b
  obtain ⟨q1, q2⟩ := pb (a / 4294967296) (b / 4294967296) (by omega) (by omega) (by omega) (by omega)
  obtain ⟨q3, q4⟩ := pb (a / 4294967296) (b % 4294967296) (by omega) (by omega) (by omega) (by omega)
  obtain ⟨q5, q6⟩ := pb (a % 4294967296) (b / 4294967296) (by omega) (by omega) (by omega) (by omega)
  obtain ⟨q7, q8⟩ := pb (a % 4294967296) (b % 4294967296) (by omega) (by omega) (by omega) (by omega)
  generalize a / 4294967296 * (b / 4294967296) = p11 at *
  generalize a / 4294967296 * (b % 4294967296) = p10 at *
  generalize a % 4294967296 * (b / 4294967296) = p01 at *
  generalize a % 4294967296 * (b % 4294967296) = p00 at *
  generalize a * b = p at *
  rw [and32 _ (by omega) (by omega)]
  congr 2
  omega
theorem number_eq (v b : Int) (h0 : 0 < b) (h1 : b ≤ 1000000000) : pledgeworld_Number.f v b = some (v % b) := by
  unfold pledgeworld_Number.f
  rw [if_neg (by omega)]
  have h1 := Int.tmod_lt_of_pos v h0
  have h2 := Int.lt_tmod_of_pos v h0
  have h3 := Int.emod_nonneg v (show b ≠ 0 by omega)
  have h4 := Int.emod_lt_of_pos v h0
  have h5 := Int.emod_add_mul_ediv v b
  have h6 := Int.tmod_add_mul_tdiv v b
  have key : ∃ c : Int, Int.tmod v b = v % b + b * c := ⟨v / b - Int.tdiv v b, by rw [Int.mul_sub]; omega⟩
  obtain ⟨c, hc⟩ := key
  have hcc : c = 0 ∨ c = -1 := by
    have a1 : c < 1 := by
      apply Decidable.byContradiction; intro hx
      have : b * 1 ≤ b * c := Int.mul_le_mul_of_nonneg_left (by omega) (by omega)
      omega
    have a2 : -2 < c := by
      apply Decidable.byContradiction; intro hx
      have : b * c ≤ b * (-2) := Int.mul_le_mul_of_nonneg_left (by omega) (by omega)
      omega
    omega
  rcases hcc with rfl | rfl
  · rw [if_neg (by omega)]; congr 1; omega
  · rw [if_pos (by omega), w64s _ (by omega) (by omega)]; congr 1; omega
/-- A number of 64 bits with a sign. -/
def In64 (n : Int) : Prop := -9223372036854775808 ≤ n ∧ n ≤ 9223372036854775807
instance (n : Int) : Decidable (In64 n) := by unfold In64; infer_instance
theorem size_eq (a : Int) (h : In64 a) : fix_size.f a = some (if a < 0 then -a else a, decide (a < 0)) := by
  obtain ⟨h0, h1⟩ := h
  unfold fix_size.f
  by_cases hn : a < 0
  · rw [if_pos hn, if_pos hn, decide_eq_true hn, wu64, wu64]
    have : -(a % 18446744073709551616) % 18446744073709551616 = -a := by omega
    rw [this]
  · rw [if_neg hn, if_neg hn, decide_eq_false hn, wu64]
    have : a % 18446744073709551616 = a := by omega
    rw [this]
theorem abs_mul (a b : Int) : (if a < 0 then -a else a) * (if b < 0 then -b else b) = if (a < 0) ≠ (b < 0) then -(a * b) else a * b := by
  by_cases h1 : a < 0 <;> by_cases h2 : b < 0 <;> simp [h1, h2] <;> grind
theorem and_low (n : Int) : Go.bits .and .i64 n 4294967295 = n % 4294967296 := by
  have e : ((BitVec.ofInt 64 n) &&& (BitVec.ofInt 64 4294967295)).toNat = (n % 18446744073709551616).toNat % 2 ^ 32 := by
    rw [BitVec.toNat_and, BitVec.toNat_ofInt, show (BitVec.ofInt 64 4294967295).toNat = 2 ^ 32 - 1 from rfl, Nat.and_two_pow_sub_one_eq_mod]
    rfl
  show IntKind.i64.wrap (((BitVec.ofInt 64 n) &&& (BitVec.ofInt 64 4294967295)).toNat : Int) = _
  rw [e, IntKind.wrap_i64]
  omega
theorem or_halves (h l : Int) (h0 : -2147483648 ≤ h) (h1 : h ≤ 2147483647) (l0 : 0 ≤ l) (l1 : l < 4294967296) : Go.bits .or .i64 (wrap64 (h * 4294967296)) l = h * 4294967296 + l := by
  rw [w64 _ (by omega) (by omega)]
  obtain ⟨b, rfl⟩ := Int.eq_ofNat_of_zero_le l0
  have hb : b < 2 ^ 32 := by omega
  have ea : (BitVec.ofInt 64 (h * 4294967296)).toNat = 2 ^ 32 * (h % 4294967296).toNat := by
    rw [BitVec.toNat_ofInt, show ((2 ^ 64 : Nat) : Int) = 18446744073709551616 from rfl]
    omega
  have eb : (BitVec.ofInt 64 (b : Int)).toNat = b := by
    rw [BitVec.toNat_ofInt, show ((2 ^ 64 : Nat) : Int) = 18446744073709551616 from rfl]
    omega
  show IntKind.i64.wrap (((BitVec.ofInt 64 (h * 4294967296)) ||| (BitVec.ofInt 64 (b : Int))).toNat : Int) = _
  rw [BitVec.toNat_or, ea, eb, ← Nat.two_pow_add_eq_or_of_lt hb, IntKind.wrap_i64]
  omega
theorem xor_max (x : Int) (h0 : 0 ≤ x) (h1 : x < 18446744073709551616) : Go.bits .xor .u64 IntKind.u64.max x = 18446744073709551615 - x := by
  obtain ⟨n, rfl⟩ := Int.eq_ofNat_of_zero_le h0
  have en : (BitVec.ofInt 64 (n : Int)).toNat = n := by
    rw [BitVec.toNat_ofInt, show ((2 ^ 64 : Nat) : Int) = 18446744073709551616 from rfl]
    omega
  show IntKind.u64.wrap (((BitVec.ofInt 64 IntKind.u64.max) ^^^ (BitVec.ofInt 64 (n : Int))).toNat : Int) = _
  have em : BitVec.ofInt 64 IntKind.u64.max = BitVec.allOnes 64 := rfl
  rw [em, BitVec.allOnes_xor, BitVec.toNat_not, en, wu64]
  omega
/-- Sizes: how far a number is from 0. -/
def ab (a : Int) : Int := if a < 0 then -a else a
theorem ab_bd (a : Int) (h : In64 a) : 0 ≤ ab a ∧ ab a ≤ 9223372036854775808 := by unfold ab; obtain ⟨h0, h1⟩ := h; split <;> omega
theorem ab_mul (a b : Int) : ab a * ab b = if (decide (a < 0) != decide (b < 0)) = true then -(a * b) else a * b := by
  have := abs_mul a b
  unfold ab
  rw [this]
  by_cases h1 : a < 0 <;> by_cases h2 : b < 0 <;> simp [h1, h2]
theorem ab_prod (a b : Int) (ha : In64 a) (hb : In64 b) : 0 ≤ ab a * ab b ∧ ab a * ab b ≤ 85070591730234615865843651857942052864 := by
  obtain ⟨a0, a1⟩ := ab_bd a ha
  obtain ⟨b0, b1⟩ := ab_bd b hb
  refine ⟨Int.mul_nonneg a0 b0, ?_⟩
  have : ab a * ab b ≤ 9223372036854775808 * 9223372036854775808 := Int.mul_le_mul a1 b1 b0 (by omega)
  omega
theorem product_eq (a b : Int) (ha : In64 a) (hb : In64 b) : fix_product.f a b = some (a * b / 18446744073709551616, a * b % 18446744073709551616) := by
  unfold fix_product.f
  have ⟨a0, a1⟩ := ab_bd a ha
  have ⟨b0, b1⟩ := ab_bd b hb
  rw [size_eq a ha, size_eq b hb]
  simp only [Option.bind_some]
  rw [show (if a < 0 then -a else a) = ab a from rfl, show (if b < 0 then -b else b) = ab b from rfl, Wide_eq _ _ a0 (by omega) b0 (by omega)]
  simp only [Option.bind_some]
  have hm := ab_mul a b
  have ⟨p0, p1⟩ := ab_prod a b ha hb
  generalize ab a * ab b = P at *
  have hnb : (decide (a < 0) == decide (b < 0)) = !(decide (a < 0) != decide (b < 0)) := by simp [bne]
  rw [hnb]
  generalize (decide (a < 0) != decide (b < 0)) = neg at *
  clear hnb ha hb a0 a1 b0 b1
  have m0 := Int.emod_nonneg P (show (18446744073709551616 : Int) ≠ 0 by omega)
  have m1 := Int.emod_lt_of_pos P (show (0 : Int) < 18446744073709551616 by omega)
  have q0 : 0 ≤ P / 18446744073709551616 := by omega
  have q1 : P / 18446744073709551616 ≤ 4611686018427387904 := by omega
  have e := Int.emod_add_mul_ediv P 18446744073709551616
  cases neg with
  | false =>
    simp only [Bool.not_false, if_true, Bool.false_eq_true, if_false] at hm ⊢
    rw [w64 _ (by omega) (by omega), hm]
  | true =>
    simp only [Bool.not_true, Bool.false_eq_true, if_false, if_true] at hm ⊢
    rw [xor_max _ m0 m1, xor_max _ q0 (by omega), if_pos (by omega), wu64]
    have hX : a * b = -P := by omega
    rw [hX]
    congr 2
    · generalize P / 18446744073709551616 = q at *
      generalize P % 18446744073709551616 = r at *
      have hP : P = 18446744073709551616 * q + r := by omega
      subst hP
      clear hX hm p0 p1 e
      unfold wrap64
      by_cases hr : r = 0
      · subst hr; omega
      · omega
    · omega
theorem Or2 (x y : Int) (k : Nat) (hk : 3 < k) : cmp_Or_int.f k [x, y] = some (if x = 0 then y else x) := by
  unfold cmp_Or_int.f
  have hl : (([x, y] : List Int).length : Int) = 2 := rfl
  rw [hl]
  have r0 : rd [x, y] 0 = x := rfl
  have r1 : rd [x, y] 1 = y := rfl
  obtain ⟨k, rfl⟩ : ∃ m, k = m + 1 := ⟨k - 1, by omega⟩
  simp only [cmp_Or_int.l0]
  rw [if_pos (by omega), if_pos (by omega), hl, if_pos (by omega), r0, show wrap64 (0 + 1) = 1 from by rw [w64s _ (by omega) (by omega)]; rfl]
  by_cases hx : x = 0
  · rw [if_pos hx, if_pos hx]
    obtain ⟨k, rfl⟩ : ∃ m, k = m + 1 := ⟨k - 1, by omega⟩
    simp only [cmp_Or_int.l0]
    rw [if_pos (by omega), if_pos (by omega), hl, if_pos (by omega), r1, show wrap64 (1 + 1) = 2 from by rw [w64s _ (by omega) (by omega)]; rfl]
    by_cases hy : y = 0
    · rw [if_pos hy]
      obtain ⟨k, rfl⟩ : ∃ m, k = m + 1 := ⟨k - 1, by omega⟩
      simp only [cmp_Or_int.l0]
      rw [if_neg (by omega), hy]
    · rw [if_neg hy]
  · rw [if_neg hx, if_neg hx]
theorem Cmp64_eq (a b : Int) : cmp_Compare_int64.f a b = some (if a < b then -1 else if b < a then 1 else 0) := by
  unfold cmp_Compare_int64.f cmp_isNaN_int64.f
  simp only [Option.bind_some, bne_self_eq_false, Bool.false_eq_true, if_false]
  repeat' split
  all_goals first | rfl | omega
theorem CmpU_eq (a b : Int) : cmp_Compare_uint64.f a b = some (if a < b then -1 else if b < a then 1 else 0) := by
  unfold cmp_Compare_uint64.f cmp_isNaN_uint64.f
  simp only [Option.bind_some, bne_self_eq_false, Bool.false_eq_true, if_false]
  repeat' split
  all_goals first | rfl | omega
theorem lex_hi (X Y p r q s : Int) (hX : X = 18446744073709551616 * p + r) (hY : Y = 18446744073709551616 * q + s) (r0 : 0 ≤ r) (r1 : r < 18446744073709551616) (s0 : 0 ≤ s) (s1 : s < 18446744073709551616) :
    (if (if p < q then (-1 : Int) else if q < p then 1 else 0) = 0 then (if r < s then (-1 : Int) else if s < r then 1 else 0) else (if p < q then (-1 : Int) else if q < p then 1 else 0)) = if X < Y then -1 else if Y < X then 1 else 0 := by
  by_cases h1 : p < q
  · rw [if_pos h1, if_neg (show ¬ (-1 : Int) = 0 by omega), if_pos (show X < Y by omega)]
  · rw [if_neg h1]
    by_cases h2 : q < p
    · rw [if_pos h2, if_neg (show ¬ (1 : Int) = 0 by omega), if_neg (show ¬ X < Y by omega), if_pos (show Y < X by omega)]
    · rw [if_neg h2, if_pos rfl]
      obtain rfl : p = q := by omega
      by_cases h3 : r < s
      · rw [if_pos h3, if_pos (show X < Y by omega)]
      · rw [if_neg h3]
        by_cases h4 : s < r
        · rw [if_pos h4, if_neg (show ¬ X < Y by omega), if_pos (show Y < X by omega)]
        · rw [if_neg h4, if_neg (show ¬ X < Y by omega), if_neg (show ¬ Y < X by omega)]
theorem Cmp_eq (a b c d : Int) (ha : In64 a) (hb : In64 b) (hc : In64 c) (hd : In64 d) (k : Nat) (hk : 3 < k) :
    fix_Cmp.f k a b c d = some (if a * b < c * d then -1 else if c * d < a * b then 1 else 0) := by
  unfold fix_Cmp.f
  rw [product_eq a b ha hb, product_eq c d hc hd]
  generalize a * b = X
  generalize c * d = Y
  simp only [Option.bind_some]
  rw [Cmp64_eq, CmpU_eq]
  simp only [Option.bind_some]
  rw [Or2 _ _ k hk]
  simp only [Option.bind_some]
  rw [lex_hi X Y _ _ _ _ (by omega) (by omega) (by omega) (by omega) (by omega) (by omega)]
/-- A lot that may be. -/
def okL (x : S25) : Prop := (0 ≤ x.f0 ∧ x.f0 ≤ 1000) ∧ (0 ≤ x.f1 ∧ x.f1 ≤ 1000000000) ∧ (0 ≤ x.f2 ∧ x.f2 ≤ 1000000000)
theorem lotB_ok (x : S25) (n : Int) (h : lotB x n = true) : okL x ∧ 0 ≤ x.f3 ∧ x.f3 < n := by
  unfold lotB inB at h
  simp only [Bool.and_eq_true, decide_eq_true_eq] at h
  exact ⟨⟨h.1.1.1, h.1.1.2, h.1.2⟩, h.2⟩
theorem Valid_none {L : List S25} {C : List Int} {N : Int} (h : lots_Valid.f L C N = some none) : (0 < L.length ∧ L.length ≤ 8) ∧ (∀ x ∈ L, okL x ∧ 0 ≤ x.f3 ∧ x.f3 < (C.length : Int)) ∧ (0 < C.length ∧ C.length ≤ 8) ∧ (∀ n ∈ C, 0 ≤ n ∧ n ≤ 1000000000000) ∧ 0 ≤ N ∧ N ≤ 1000000000000 := by
  unfold lots_Valid.f at h
  have h := Option.some.inj h
  by_cases h1 : L.length = 0 ∨ 8 < L.length ∨ C.length = 0 ∨ 8 < C.length
  · rw [if_pos h1] at h; cases h
  · rw [if_neg h1] at h
    by_cases h2 : (L.any fun x => !lotB x (C.length : Int)) = true ∨ (C.any fun n => !inB n 1000000000000) = true ∨ inB N 1000000000000 = false
    · rw [if_pos h2] at h; cases h
    · simp only [not_or, List.any_eq_true, not_exists, not_and] at h2
      obtain ⟨a, b, c⟩ := h2
      refine ⟨by omega, fun x hx => lotB_ok x _ ?_, by omega, fun n hn => ?_, ?_⟩
      · have := a x hx; simpa using this
      · have := b n hn
        unfold inB at this; simp at this; exact this
      · unfold inB at c; simp at c; exact c
theorem Valid_ex (L : List S25) (C : List Int) (N : Int) : ∃ r, lots_Valid.f L C N = some r := ⟨_, rfl⟩
/-- The lot at a place. -/
def lt (L : List S25) (j : Nat) : S25 := L.getD j z25
theorem rd_lt (L : List S25) (j : Nat) : rd_T25 L (j : Int) = lt L j := by unfold rd_T25 lt; rw [Int.toNat_natCast]
theorem lt_mem (L : List S25) (j : Nat) (h : j < L.length) : lt L j ∈ L := by
  unfold lt; rw [List.getD_eq_getElem?_getD, List.getElem?_eq_getElem h]; exact List.getElem_mem h
theorem lt_ok {L : List S25} (ok : ∀ x ∈ L, okL x) (j : Nat) (h : j < L.length) : okL (lt L j) := ok _ (lt_mem L j h)
/-- Cheaper for what it is worth. -/
def chp (a b : S25) : Bool := if a.f1 = 0 then decide (a.f1 > b.f1) else if b.f1 = 0 then decide (a.f1 > b.f1) else decide (a.f2 * b.f1 < b.f2 * a.f1)
theorem Cheaper_eq (a b : S25) (ha : okL a) (hb : okL b) (k : Nat) (hk : 3 < k) : lots_Cheaper.f k a.f0 a.f1 a.f2 a.f3 b.f0 b.f1 b.f2 b.f3 = some (chp a b) := by
  unfold lots_Cheaper.f chp
  obtain ⟨_, a1, a2⟩ := ha
  obtain ⟨_, b1, b2⟩ := hb
  by_cases h1 : a.f1 = 0
  · rw [if_pos h1, if_pos h1]
  · rw [if_neg h1, if_neg h1]
    by_cases h2 : b.f1 = 0
    · rw [if_pos h2, if_pos h2]
    · rw [if_neg h2, if_neg h2, Cmp_eq _ _ _ _ (by unfold In64; omega) (by unfold In64; omega) (by unfold In64; omega) (by unfold In64; omega) k hk]
      simp only [Option.bind_some]
      congr 1
      generalize a.f2 * b.f1 = X
      generalize b.f2 * a.f1 = Y
      by_cases h3 : X < Y
      · rw [if_pos h3, decide_eq_true h3]; rfl
      · rw [if_neg h3, decide_eq_false h3]
        by_cases h4 : Y < X
        · rw [if_pos h4]; rfl
        · rw [if_neg h4]; rfl
theorem R10 (p : S25) : rd_T25 [p] 0 = p := rfl
theorem r10 (a : Int) : rd [a] 0 = a := rfl
theorem v1 : wrap64 1 = 1 := by unfold wrap64; omega
theorem v2 : wrap64 2 = 2 := by unfold wrap64; omega
theorem w1 : wrap64 (0 + 1) = 1 := by unfold wrap64; omega
theorem w2 : wrap64 (1 + 1) = 2 := by unfold wrap64; omega
theorem chk (p q : S25) (hp : okL p) (hq : okL q) : lots_Cheaper.f ordK p.f0 p.f1 p.f2 p.f3 q.f0 q.f1 q.f2 q.f3 = some (chp p q) := Cheaper_eq p q hp hq ordK (by unfold ordK; omega)
theorem chE (p q : S25) (hp : okL p) (hq : okL q) : ELotsGrow.chp p q = chp p q := by
  unfold ELotsGrow.chp
  rw [chk p q hp hq]; rfl
theorem ord_ok (L : List S25) (h0 : 0 < L.length) (h1 : L.length < 20) (h : ∀ x ∈ L, okL x) : ordOK L = true := by
  have hr : ∀ i : Nat, i < L.length → okL (rd_T25 L i) := fun i hi => by rw [rd_lt]; exact lt_ok h i hi
  unfold ordOK
  rw [Bool.and_eq_true, Bool.and_eq_true]
  refine ⟨⟨decide_eq_true h0, decide_eq_true h1⟩, List.all_eq_true.2 fun i hi => List.all_eq_true.2 fun j hj => ?_⟩
  rw [chk _ _ (hr i (List.mem_range.1 hi)) (hr j (List.mem_range.1 hj))]
  rfl
theorem okx (x c : Int) (hx : 0 ≤ x) (hx1 : x ≤ 1000) (hc : 0 ≤ c) (hc1 : c ≤ 1000) (v : Int) (hv : 0 ≤ v) (hv1 : v ≤ 1000) : okL (⟨x, v, c, 0⟩ : S25) := by unfold okL; simp only; omega
theorem order1 (p : S25) (hp : okL p) : lots_Order.f [p] = some [0] := by
  unfold lots_Order.f
  rw [if_pos (ord_ok _ (by simp) (by simp) (by intro z hz; simp only [List.mem_cons, List.not_mem_nil, or_false] at hz; subst hz; exact hp))]
  unfold ordF
  show some (Go.Sort.insertionSort (ltI (ordC _)) (ixs 1).toArray 0 1).toList = _
  unfold Go.Sort.insertionSort
  rw [Go.Sort.insOuter, if_neg (by omega)]
  rfl
theorem valid1 : lots_Valid.f [(⟨3, 5, 1, 0⟩ : S25)] [0] 0 = some none := by rfl
theorem worth1 (a : Int) (ha : 0 ≤ a) (ha' : a ≤ 1000) (k : Nat) (hk : 6 < k) : lots_worth.f k [(⟨3, 5, 1, 0⟩ : S25)] [0] 0 [a] = some (5 * a) := by
  have e1 : wrap64 (a * 5) = 5 * a := by unfold wrap64; omega
  have e3 : wrap64 (0 + 5 * a) = 5 * a := by unfold wrap64; omega
  have f3 : wrap64 (5 * a) = 5 * a := by unfold wrap64; omega
  unfold lots_worth.f
  rw [if_pos (by simp), if_pos (by simp)]
  show lots_worth.l0 k [0] [a] 1 0 _ [0] 0 = _
  obtain ⟨k, rfl⟩ : ∃ m, k = m + 1 := ⟨k - 1, by omega⟩
  have h1 : lots_worth.l0 (k + 1) [0] [a] 1 0 [(⟨3, 5, 1, 0⟩ : S25)] [0] 0 = lots_worth.l0 k [5 * a] [a] 1 1 [(⟨3, 5, 1, 0⟩ : S25)] [0] 0 := by
    simp [lots_worth.l0, R10, r10, e1, e3, f3, w1, v1]
  rw [h1]
  clear h1
  obtain ⟨k, rfl⟩ : ∃ m, k = m + 1 := ⟨k - 1, by omega⟩
  have h1 : lots_worth.l0 (k + 1) [5 * a] [a] 1 1 [(⟨3, 5, 1, 0⟩ : S25)] [0] 0 = lots_worth.l1 k 0 [5 * a] 1 0 [(⟨3, 5, 1, 0⟩ : S25)] [0] 0 := by
    simp [lots_worth.l0]
  rw [h1]
  clear h1
  obtain ⟨k, rfl⟩ : ∃ m, k = m + 1 := ⟨k - 1, by omega⟩
  have h1 : lots_worth.l1 (k + 1) 0 [5 * a] 1 0 [(⟨3, 5, 1, 0⟩ : S25)] [0] 0 = lots_worth.l1 k (5 * a) [5 * a] 1 1 [(⟨3, 5, 1, 0⟩ : S25)] [0] 0 := by
    simp [lots_worth.l1, r10, e3, f3, w1, v1]
  rw [h1]
  clear h1
  obtain ⟨k, rfl⟩ : ∃ m, k = m + 1 := ⟨k - 1, by omega⟩
  simp [lots_worth.l1]
theorem greedy1 (k : Nat) (hk : 20 < k) : lots_Greedy.f k [(⟨3, 5, 1, 0⟩ : S25)] [0] 0 = some ([0], true) := by
  unfold lots_Greedy.f
  rw [valid1]
  simp only [Option.bind_some, Option.isNone_none]
  rw [if_pos trivial, if_pos (by simp), if_pos (by simp)]
  show (lots_worth.f k _ [0] 0 [0]).bind _ = _
  rw [worth1 0 (by omega) (by omega) k (by omega), Option.bind_some, order1 _ (okx 3 1 (by omega) (by omega) (by omega) (by omega) 5 (by omega) (by omega)), Option.bind_some]
  show lots_Greedy.l0 k [0] 0 [0] 1 0 _ [0] 0 = _
  obtain ⟨k, rfl⟩ : ∃ m, k = m + 1 := ⟨k - 1, by omega⟩
  have h1 : lots_Greedy.l0 (k + 1) [0] 0 [0] 1 0 [(⟨3, 5, 1, 0⟩ : S25)] [0] 0 = lots_Greedy.l1 k [0] 0 0 [0] 1 0 [(⟨3, 5, 1, 0⟩ : S25)] [0] 0 := by
    simp [lots_Greedy.l0, r10]
  rw [h1]
  clear h1
  obtain ⟨k, rfl⟩ : ∃ m, k = m + 1 := ⟨k - 1, by omega⟩
  have h1 : lots_Greedy.l1 (k + 1) [0] 0 0 [0] 1 0 [(⟨3, 5, 1, 0⟩ : S25)] [0] 0 = lots_Greedy.j2 k [0] 0 0 [0] 1 0 false [(⟨3, 5, 1, 0⟩ : S25)] [0] 0 := by
    simp [lots_Greedy.l1]
  rw [h1]
  clear h1
  obtain ⟨k, rfl⟩ : ∃ m, k = m + 1 := ⟨k - 1, by omega⟩
  have h1 : lots_Greedy.j2 (k + 1) [0] 0 0 [0] 1 0 false [(⟨3, 5, 1, 0⟩ : S25)] [0] 0 = lots_Greedy.l0 k [0] 0 [0] 1 1 [(⟨3, 5, 1, 0⟩ : S25)] [0] 0 := by
    simp [lots_Greedy.j2, w1, v1]
  rw [h1]
  clear h1
  obtain ⟨k, rfl⟩ : ∃ m, k = m + 1 := ⟨k - 1, by omega⟩
  simp [lots_Greedy.l0]
theorem whole1 (k : Nat) (hk : 5 < k) : lots_whole.f k [(⟨3, 5, 1, 0⟩ : S25)] [0] 0 = some [3] := by
  unfold lots_whole.f
  show lots_whole.l0 k [] _ 1 0 = _
  obtain ⟨k, rfl⟩ : ∃ m, k = m + 1 := ⟨k - 1, by omega⟩
  have h1 : lots_whole.l0 (k + 1) [] [(⟨3, 5, 1, 0⟩ : S25)] 1 0 = lots_whole.l0 k [3] [(⟨3, 5, 1, 0⟩ : S25)] 1 1 := by
    simp [lots_whole.l0, R10, w1, v1]
  rw [h1]
  clear h1
  obtain ⟨k, rfl⟩ : ∃ m, k = m + 1 := ⟨k - 1, by omega⟩
  simp [lots_whole.l0]
theorem fits1 (k : Nat) (hk : 8 < k) : lots_fits.f k [(⟨3, 5, 1, 0⟩ : S25)] [0] 0 [3] = some true := by
  unfold lots_fits.f
  rw [valid1]
  simp only [Option.bind_some, Option.isNone_none]
  rw [if_pos trivial]
  show lots_fits.j0 k [3] false _ [0] 0 = _
  obtain ⟨k, rfl⟩ : ∃ m, k = m + 1 := ⟨k - 1, by omega⟩
  have h1 : lots_fits.j0 (k + 1) [3] false [(⟨3, 5, 1, 0⟩ : S25)] [0] 0 = lots_fits.l0 k [3] 1 0 [(⟨3, 5, 1, 0⟩ : S25)] [0] 0 := by
    simp [lots_fits.j0]
  rw [h1]
  clear h1
  obtain ⟨k, rfl⟩ : ∃ m, k = m + 1 := ⟨k - 1, by omega⟩
  have h1 : lots_fits.l0 (k + 1) [3] 1 0 [(⟨3, 5, 1, 0⟩ : S25)] [0] 0 = lots_fits.l0 k [3] 1 1 [(⟨3, 5, 1, 0⟩ : S25)] [0] 0 := by
    simp [lots_fits.l0, r10, R10, w1, v1]
  rw [h1]
  clear h1
  obtain ⟨k, rfl⟩ : ∃ m, k = m + 1 := ⟨k - 1, by omega⟩
  simp [lots_fits.l0]
theorem first_eq (k : Nat) (hk : 100 < k) : pledgelaw18_first.f k = some true := by
  unfold pledgelaw18_first.f
  simp only [Option.bind_some]
  rw [greedy1 k (by omega)]
  simp only [Option.bind_some]
  rw [if_pos trivial, if_pos (by simp), if_pos (by simp), if_pos (by rfl)]
  unfold lots_Most.f lots_Worth.f
  rw [whole1 k (by omega), Option.bind_some, fits1 k (by omega), Option.bind_some, if_pos rfl, worth1 3 (by omega) (by omega) k (by omega)]
  rfl
/-- What is taken of the first i lots of a group is worth. -/
def gS (L : List S25) (T : List Int) (g : Int) : Nat → Int
  | 0 => 0
  | i + 1 => gS L T g i + (if (lt L i).f3 = g then T.getD i 0 * (lt L i).f1 else 0)
/-- A cap. -/
def cap1 (c s : Int) : Int := if c > 0 then mn s c else s
/-- What the first m groups count. -/
def gV (L : List S25) (C T : List Int) : Nat → Int
  | 0 => 0
  | m + 1 => gV L C T m + cap1 (C.getD m 0) (gS L T m T.length)
/-- What a choice is worth. -/
def gW (L : List S25) (C T : List Int) : Int := gV L C T C.length
/-- What the first i cost. -/
def gK (L : List S25) (T : List Int) : Nat → Int
  | 0 => 0
  | i + 1 => gK L T i + T.getD i 0 * (lt L i).f2
/-- A choice that may be. -/
def okT (L : List S25) (T : List Int) : Prop := T.length = L.length ∧ ∀ i : Nat, i < L.length → 0 ≤ T.getD i 0 ∧ T.getD i 0 ≤ (lt L i).f0
theorem mul_bd {a b A B : Int} (ha : 0 ≤ a) (ha' : a ≤ A) (hb : 0 ≤ b) (hb' : b ≤ B) : 0 ≤ a * b ∧ a * b ≤ A * B :=
  ⟨Int.mul_nonneg ha hb, Int.le_trans (Int.mul_le_mul_of_nonneg_right ha' hb) (Int.mul_le_mul_of_nonneg_left hb' (Int.le_trans ha ha'))⟩
theorem pr_bd {L : List S25} {T : List Int} (ok : ∀ x ∈ L, okL x) (hT : okT L T) (i : Nat) (h : i < L.length) : 0 ≤ T.getD i 0 * (lt L i).f1 ∧ T.getD i 0 * (lt L i).f1 ≤ 1000000000000 := by
  obtain ⟨a, b, _⟩ := lt_ok ok i h
  obtain ⟨c, d⟩ := hT.2 i h
  have := mul_bd (A := 1000) (B := 1000000000) c (by omega) b.1 b.2
  omega
theorem pk_bd {L : List S25} {T : List Int} (ok : ∀ x ∈ L, okL x) (hT : okT L T) (i : Nat) (h : i < L.length) : 0 ≤ T.getD i 0 * (lt L i).f2 ∧ T.getD i 0 * (lt L i).f2 ≤ 1000000000000 := by
  obtain ⟨a, _, b⟩ := lt_ok ok i h
  obtain ⟨c, d⟩ := hT.2 i h
  have := mul_bd (A := 1000) (B := 1000000000) c (by omega) b.1 b.2
  omega
theorem gS_bd {L : List S25} {T : List Int} (ok : ∀ x ∈ L, okL x) (hT : okT L T) (g : Int) : ∀ i : Nat, i ≤ L.length → 0 ≤ gS L T g i ∧ gS L T g i ≤ i * 1000000000000
  | 0, _ => by simp [gS]
  | i + 1, h => by
    have h1 := gS_bd ok hT g i (by omega)
    have h2 := pr_bd ok hT i (by omega)
    simp only [gS]
    split <;> omega
theorem gK_bd {L : List S25} {T : List Int} (ok : ∀ x ∈ L, okL x) (hT : okT L T) : ∀ i : Nat, i ≤ L.length → 0 ≤ gK L T i ∧ gK L T i ≤ i * 1000000000000
  | 0, _ => by simp [gK]
  | i + 1, h => by
    have h1 := gK_bd ok hT i (by omega)
    have h2 := pk_bd ok hT i (by omega)
    simp only [gK]
    omega
theorem cap_bd (c s : Int) (h : 0 ≤ s) : 0 ≤ cap1 c s ∧ cap1 c s ≤ s := by
  unfold cap1 mn; split
  · split <;> omega
  · omega
theorem cap_le (c s v : Int) (hv : 0 ≤ v) : cap1 c s ≤ cap1 c (s + v) ∧ cap1 c (s + v) ≤ cap1 c s + v := by
  unfold cap1 mn; split
  · split <;> split <;> omega
  · omega
theorem gV_bd {L : List S25} {C T : List Int} (ok : ∀ x ∈ L, okL x) (hT : okT L T) (h8 : L.length ≤ 8) : ∀ m : Nat, 0 ≤ gV L C T m ∧ gV L C T m ≤ m * 8000000000000
  | 0 => by simp [gV]
  | m + 1 => by
    have h1 := gV_bd (C := C) ok hT h8 m
    have h2 := gS_bd ok hT (m : Int) T.length (by rw [hT.1]; omega)
    have h3 := cap_bd (C.getD m 0) _ h2.1
    have h4 := hT.1
    simp only [gV]
    omega
/-- Another choice that takes no less of any: it is worth no less. -/
theorem gS_le {L : List S25} {T U : List Int} (ok : ∀ x ∈ L, okL x) (h : ∀ i : Nat, i < L.length → T.getD i 0 ≤ U.getD i 0) (g : Int) : ∀ i : Nat, i ≤ L.length → gS L T g i ≤ gS L U g i
  | 0, _ => by simp [gS]
  | i + 1, hi => by
    have h1 := gS_le ok h g i (by omega)
    have h2 : T.getD i 0 * (lt L i).f1 ≤ U.getD i 0 * (lt L i).f1 := Int.mul_le_mul_of_nonneg_right (h i (by omega)) (lt_ok ok i (by omega)).2.1.1
    simp only [gS]
    split <;> omega
theorem cap_mono (c s t : Int) (h : s ≤ t) : cap1 c s ≤ cap1 c t := by
  have := (cap_le c s (t - s) (by omega)).1
  rwa [show s + (t - s) = t by omega] at this
theorem gV_le {L : List S25} {C T U : List Int} (ok : ∀ x ∈ L, okL x) (hT : okT L T) (hU : okT L U) (h : ∀ i : Nat, i < L.length → T.getD i 0 ≤ U.getD i 0) : ∀ m : Nat, gV L C T m ≤ gV L C U m
  | 0 => by simp [gV]
  | m + 1 => by
    have h1 := gV_le (C := C) ok hT hU h m
    have h2 := cap_mono (C.getD m 0) _ _ (gS_le ok h (m : Int) L.length (Nat.le_refl _))
    simp only [gV, hT.1, hU.1]
    omega
theorem set_len (T : List Int) (a : Nat) (v : Int) : (T.set a v).length = T.length := List.length_set
theorem getD_set (T : List Int) (a i : Nat) (v : Int) (ha : a < T.length) : (T.set a v).getD i 0 = if i = a then v else T.getD i 0 := by
  rw [List.getD_eq_getElem?_getD, List.getD_eq_getElem?_getD, List.getElem?_set]
  by_cases h : a = i
  · subst h; rw [if_pos rfl, if_pos ha, if_pos rfl]; rfl
  · rw [if_neg h, if_neg (fun e => h e.symm)]
/-- More by d of one. -/
theorem gS_set (L : List S25) (T : List Int) (a : Nat) (d : Int) (ha : a < T.length) (g : Int) : ∀ i : Nat, gS L (T.set a (T.getD a 0 + d)) g i = gS L T g i + (if a < i ∧ (lt L a).f3 = g then d * (lt L a).f1 else 0)
  | 0 => by simp [gS]
  | i + 1 => by
    simp only [gS]
    rw [gS_set L T a d ha g i, getD_set T a i _ ha]
    by_cases h : i = a
    · subst h
      rw [if_pos rfl, if_neg (by omega)]
      by_cases hg : (lt L i).f3 = g
      · rw [if_pos hg, if_pos hg, if_pos ⟨by omega, hg⟩, Int.add_mul]; omega
      · rw [if_neg hg, if_neg hg, if_neg (fun x => hg x.2)]
    · rw [if_neg h]
      have e : (a < i + 1 ∧ (lt L a).f3 = g) ↔ (a < i ∧ (lt L a).f3 = g) := by constructor <;> rintro ⟨x, y⟩ <;> exact ⟨by omega, y⟩
      by_cases hg : a < i ∧ (lt L a).f3 = g
      · rw [if_pos hg, if_pos (e.2 hg)]; omega
      · rw [if_neg hg, if_neg (fun x => hg (e.1 x))]; omega
theorem gK_set (L : List S25) (T : List Int) (a : Nat) (d : Int) (ha : a < T.length) : ∀ i : Nat, gK L (T.set a (T.getD a 0 + d)) i = gK L T i + (if a < i then d * (lt L a).f2 else 0)
  | 0 => by simp [gK]
  | i + 1 => by
    simp only [gK]
    rw [gK_set L T a d ha i, getD_set T a i _ ha]
    by_cases h : i = a
    · subst h
      rw [if_pos rfl, if_neg (by omega), if_pos (by omega), Int.add_mul]; omega
    · rw [if_neg h]
      by_cases hg : a < i
      · rw [if_pos hg, if_pos (by omega)]; omega
      · rw [if_neg hg, if_neg (by omega)]; omega
theorem gV_set (L : List S25) (C T : List Int) (a : Nat) (ha : a < T.length) (hv : 0 ≤ (lt L a).f1) : ∀ m : Nat, gV L C T m ≤ gV L C (T.set a (T.getD a 0 + 1)) m ∧ gV L C (T.set a (T.getD a 0 + 1)) m ≤ gV L C T m + (if (lt L a).f3 < (m : Int) ∧ 0 ≤ (lt L a).f3 then (lt L a).f1 else 0)
  | 0 => by simp only [gV]; split <;> omega
  | m + 1 => by
    have ih := gV_set L C T a ha hv m
    simp only [gV]
    rw [set_len, gS_set L T a 1 ha]
    by_cases hg : (lt L a).f3 = (m : Int)
    · rw [if_pos ⟨ha, hg⟩, if_pos (by omega)]
      rw [if_neg (by omega)] at ih
      have := cap_le (C.getD m 0) (gS L T m T.length) (1 * (lt L a).f1) (by omega)
      omega
    · rw [if_neg (fun x => hg x.2), Int.add_zero]
      by_cases h2 : (lt L a).f3 < (m : Int) ∧ 0 ≤ (lt L a).f3
      · rw [if_pos h2] at ih; rw [if_pos (by omega)]; omega
      · rw [if_neg h2] at ih; rw [if_neg (by omega)]; omega
/-- Without caps. -/
theorem gV_free (L : List S25) (C T : List Int) (hC : ∀ j : Nat, C.getD j 0 ≤ 0) (a : Nat) (ha : a < T.length) : ∀ m : Nat, gV L C (T.set a (T.getD a 0 + 1)) m = gV L C T m + (if (lt L a).f3 < (m : Int) ∧ 0 ≤ (lt L a).f3 then (lt L a).f1 else 0)
  | 0 => by simp only [gV]; rw [if_neg (by omega)]; rfl
  | m + 1 => by
    have ih := gV_free L C T hC a ha m
    have e : ∀ s, cap1 (C.getD m 0) s = s := fun s => by unfold cap1; rw [if_neg (by have := hC m; omega)]
    simp only [gV, e]
    rw [set_len, gS_set L T a 1 ha]
    by_cases hg : (lt L a).f3 = (m : Int)
    · rw [if_neg (show ¬ ((lt L a).f3 < (m : Int) ∧ 0 ≤ (lt L a).f3) by omega)] at ih
      rw [if_pos (show a < T.length ∧ (lt L a).f3 = (m : Int) from ⟨ha, hg⟩), if_pos (by omega)]; omega
    · rw [if_neg (show ¬ (a < T.length ∧ (lt L a).f3 = (m : Int)) from fun x => hg x.2)]
      by_cases h2 : (lt L a).f3 < (m : Int) ∧ 0 ≤ (lt L a).f3
      · rw [if_pos h2] at ih; rw [if_pos (by omega)]; omega
      · rw [if_neg h2] at ih; rw [if_neg (by omega)]; omega
/-- Free of caps it is worth no less. -/
theorem gV_caps (L : List S25) (C F T : List Int) (hF : ∀ j : Nat, F.getD j 0 ≤ 0) (hS : ∀ g : Int, 0 ≤ gS L T g T.length) : ∀ m : Nat, gV L C T m ≤ gV L F T m
  | 0 => by simp [gV]
  | m + 1 => by
    have ih := gV_caps L C F T hF hS m
    have e : cap1 (F.getD m 0) (gS L T m T.length) = gS L T m T.length := by unfold cap1; rw [if_neg (by have := hF m; omega)]
    have := (cap_bd (C.getD m 0) _ (hS m)).2
    simp only [gV, e]
    omega
theorem w64m (n : Int) (h0 : -1000000000000000 ≤ n) (h1 : n ≤ 1000000000000000) : wrap64 n = n := by unfold wrap64; omega
theorem rd_nat' (l : List Int) (i : Nat) : rd l (i : Int) = l.getD i 0 := by unfold rd; rw [Int.toNat_natCast]
theorem wn (i : Nat) (h : i ≤ 1000000) : wrap64 ((i : Int) + 1) = ((i + 1 : Nat) : Int) := by unfold wrap64; omega
/-- The sums of all groups, of the first i lots. -/
def sm (L : List S25) (T : List Int) (m i : Nat) : List Int := (List.range m).map (fun g : Nat => gS L T (g : Int) i)
theorem sm_len (L : List S25) (T : List Int) (m i : Nat) : (sm L T m i).length = m := by unfold sm; rw [List.length_map, List.length_range]
theorem sm_get (L : List S25) (T : List Int) (m i g : Nat) (h : g < m) : (sm L T m i).getD g 0 = gS L T (g : Int) i := by
  unfold sm; rw [List.getD_eq_getElem?_getD, List.getElem?_map, List.getElem?_range h]; rfl
theorem sm_elem (L : List S25) (T : List Int) (m i j : Nat) (h : j < (sm L T m i).length) : (sm L T m i)[j] = gS L T (j : Int) i := by simp [sm]
theorem sm_zero (L : List S25) (T : List Int) (m : Nat) : List.replicate m (0 : Int) = sm L T m 0 := by
  apply List.ext_getElem
  · rw [List.length_replicate, sm_len]
  · intro j h1 h2
    rw [List.getElem_replicate, sm_elem]; rfl
theorem sm_step (L : List S25) (T : List Int) (m i g : Nat) (v : Int) (hg : (lt L i).f3 = (g : Int)) (hm : g < m) (hv : v = gS L T (g : Int) i + T.getD i 0 * (lt L i).f1) : (sm L T m i).set g v = sm L T m (i + 1) := by
  apply List.ext_getElem
  · rw [List.length_set, sm_len, sm_len]
  · intro j h1 h2
    rw [List.getElem_set, sm_elem, sm_elem]
    simp only [gS]
    by_cases h : g = j
    · subst h; rw [if_pos rfl, if_pos hg, hv]
    · rw [if_neg h, if_neg (by omega), Int.add_zero]
/-- A problem that may be. -/
structure OkP (L : List S25) (C : List Int) : Prop where
  l8 : L.length ≤ 8
  lots : ∀ x ∈ L, okL x
  grp : ∀ x ∈ L, 0 ≤ x.f3 ∧ x.f3 < (C.length : Int)
  c8 : C.length ≤ 8
theorem w_l0 {L : List S25} {C T : List Int} (P : OkP L C) (hT : okT L T) (N : Int) : ∀ (d i k : Nat), i + d = L.length → lots_worth.l0 (k + d + 1) (sm L T C.length i) T (T.length : Int) (i : Int) L C N = lots_worth.l1 k 0 (sm L T C.length L.length) (C.length : Int) 0 L C N
  | 0, i, k, h => by
    obtain rfl : i = L.length := by omega
    simp only [Nat.add_zero, lots_worth.l0]
    rw [if_neg (by rw [hT.1]; omega), sm_len]
  | d + 1, i, k, h => by
    have ih := w_l0 P hT N d (i + 1) k (by omega)
    have hT1 := hT.1
    have hl8 := P.l8
    have hi : i < L.length := by omega
    obtain ⟨q1, q2⟩ := P.grp _ (lt_mem L i hi)
    obtain ⟨g, hg⟩ := Int.eq_ofNat_of_zero_le q1
    have hgC : g < C.length := by omega
    have b1 := gS_bd P.lots hT (g : Int) i (by omega)
    have b2 := pr_bd P.lots hT i hi
    obtain ⟨K, hK⟩ : ∃ K, K = k + d + 1 := ⟨_, rfl⟩
    rw [← hK] at ih
    rw [show k + (d + 1) + 1 = K + 1 by omega]
    have ew1 : wrap64 (T.getD i 0 * (lt L i).f1) = T.getD i 0 * (lt L i).f1 := w64m _ (by omega) (by omega)
    have ew2 : wrap64 (gS L T (g : Int) i + T.getD i 0 * (lt L i).f1) = gS L T (g : Int) i + T.getD i 0 * (lt L i).f1 := w64m _ (by omega) (by omega)
    simp only [lots_worth.l0]
    rw [if_pos (by omega), if_pos (by omega), if_pos (by omega), if_pos (by omega), rd_lt, hg, if_pos (by omega), sm_len, if_pos (by omega), rd_nat', rd_nat', sm_get _ _ _ _ _ hgC, ew1, ew2, Int.toNat_natCast, sm_step L T C.length i g _ hg hgC rfl, wn i (by omega), ih]
theorem w_l1 {L : List S25} {C T : List Int} (P : OkP L C) (hT : okT L T) (N : Int) : ∀ (d j k : Nat), j + d = C.length → lots_worth.l1 (k + d + 1) (gV L C T j) (sm L T C.length L.length) (C.length : Int) (j : Int) L C N = some (gW L C T)
  | 0, j, k, h => by
    obtain rfl : j = C.length := by omega
    simp only [Nat.add_zero, lots_worth.l1]
    rw [if_neg (by omega)]
    rfl
  | d + 1, j, k, h => by
    have ih := w_l1 P hT N d (j + 1) k (by omega)
    have hj : j < C.length := by omega
    have hT1 := hT.1
    have hc8 := P.c8
    have hl8 := P.l8
    have b1 := gV_bd (C := C) P.lots hT hl8 j
    have b3 := gS_bd P.lots hT (j : Int) L.length (by omega)
    have b2 := cap_bd (C.getD j 0) _ b3.1
    obtain ⟨K, hK⟩ : ∃ K, K = k + d + 1 := ⟨_, rfl⟩
    rw [← hK] at ih
    rw [show k + (d + 1) + 1 = K + 1 by omega]
    simp only [lots_worth.l1]
    rw [if_pos (by omega), if_pos (by omega), sm_len, if_pos (by omega), if_pos (by omega), rd_nat', rd_nat', sm_get _ _ _ _ _ hj, wn j (by omega)]
    have e : gV L C T (j + 1) = gV L C T j + cap1 (C.getD j 0) (gS L T (j : Int) L.length) := by simp only [gV]; rw [hT1]
    by_cases hc : C.getD j 0 > 0
    · have e2 : cap1 (C.getD j 0) (gS L T (j : Int) L.length) = mn (gS L T (j : Int) L.length) (C.getD j 0) := if_pos hc
      rw [if_pos hc, ← e2, ← e, w64m _ (by omega) (by omega), ih]
    · have e2 : cap1 (C.getD j 0) (gS L T (j : Int) L.length) = gS L T (j : Int) L.length := if_neg hc
      rw [if_neg hc]
      rw [e2] at e b2
      rw [← e, w64m _ (by omega) (by omega), ih]
theorem worth_g {L : List S25} {C T : List Int} (P : OkP L C) (hT : okT L T) (N : Int) (k : Nat) (hk : 20 < k) : lots_worth.f k L C N T = some (gW L C T) := by
  have hc8 := P.c8
  have hl8 := P.l8
  unfold lots_worth.f
  rw [if_pos (by omega), if_pos (by omega), Int.toNat_natCast, sm_zero L T]
  obtain ⟨k1, rfl⟩ : ∃ m, k = m + L.length + 1 := ⟨k - L.length - 1, by omega⟩
  have h0 := w_l0 P hT N L.length 0 k1 (by omega)
  rw [show ((0 : Nat) : Int) = 0 from rfl] at h0
  rw [h0]
  obtain ⟨k2, rfl⟩ : ∃ m, k1 = m + C.length + 1 := ⟨k1 - C.length - 1, by omega⟩
  exact w_l1 P hT N C.length 0 k2 (by omega)
/-- Is each of d places from i on within? -/
def fb (L : List S25) (T : List Int) : Nat → Nat → Bool
  | _, 0 => true
  | i, d + 1 => decide (0 ≤ T.getD i 0 ∧ T.getD i 0 ≤ (lt L i).f0) && fb L T (i + 1) d
theorem fb_iff (L : List S25) (T : List Int) : ∀ (d i : Nat), fb L T i d = true ↔ ∀ j : Nat, i ≤ j → j < i + d → 0 ≤ T.getD j 0 ∧ T.getD j 0 ≤ (lt L j).f0
  | 0, i => by simp only [fb, true_iff]; intro j _ _; omega
  | d + 1, i => by
    simp only [fb, Bool.and_eq_true, decide_eq_true_eq, fb_iff L T d (i + 1)]
    constructor
    · rintro ⟨h1, h2⟩ j hj hj2
      by_cases h : j = i
      · subst h; exact h1
      · exact h2 j (by omega) (by omega)
    · intro h
      exact ⟨h i (Nat.le_refl _) (by omega), fun j hj hj2 => h j (by omega) (by omega)⟩
theorem f_l0 (L : List S25) (C T : List Int) (hL : L.length ≤ 8) (hT : T.length = L.length) (N : Int) : ∀ (d i k : Nat), i + d = L.length → lots_fits.l0 (k + d + 1) T (T.length : Int) (i : Int) L C N = some (fb L T i d)
  | 0, i, k, h => by
    simp only [Nat.add_zero, lots_fits.l0, fb]
    rw [if_neg (by omega)]
  | d + 1, i, k, h => by
    have ih := f_l0 L C T hL hT N d (i + 1) k (by omega)
    obtain ⟨K, hK⟩ : ∃ K, K = k + d + 1 := ⟨_, rfl⟩
    rw [← hK] at ih
    rw [show k + (d + 1) + 1 = K + 1 by omega]
    simp only [lots_fits.l0, fb]
    rw [if_pos (by omega), if_pos (by omega), if_pos (by omega), rd_nat', rd_lt]
    by_cases h1 : T.getD i 0 < 0
    · rw [if_pos h1, decide_eq_false (by omega)]; rfl
    · rw [if_neg h1, if_pos (by omega)]
      by_cases h2 : T.getD i 0 > (lt L i).f0
      · rw [if_pos h2, decide_eq_false (by omega)]; rfl
      · rw [if_neg h2, decide_eq_true (by omega), wn i (by omega), ih]; rfl
def fitB (L : List S25) (T : List Int) : Bool := decide (T.length = L.length) && fb L T 0 L.length
theorem fitB_iff (L : List S25) (T : List Int) : fitB L T = true ↔ okT L T := by
  unfold fitB okT
  rw [Bool.and_eq_true, decide_eq_true_eq, fb_iff]
  constructor
  · rintro ⟨a, b⟩; exact ⟨a, fun i hi => b i (Nat.zero_le _) (by omega)⟩
  · rintro ⟨a, b⟩; exact ⟨a, fun i _ hi => b i (by omega)⟩
theorem fits_g {L : List S25} {C : List Int} {N : Int} (hV : lots_Valid.f L C N = some none) (T : List Int) (k : Nat) (hk : 20 < k) : lots_fits.f k L C N T = some (fitB L T) := by
  have hL := (Valid_none hV).1
  unfold lots_fits.f
  rw [hV]
  simp only [Option.bind_some, Option.isNone_none]
  rw [if_pos trivial]
  obtain ⟨k1, rfl⟩ : ∃ m, k = m + 1 := ⟨k - 1, by omega⟩
  simp only [lots_fits.j0]
  unfold fitB
  by_cases h : T.length = L.length
  · have e : ((T.length : Int) != (L.length : Int)) = false := by rw [h]; simp
    rw [e, decide_eq_true h]
    simp only [Bool.false_eq_true, if_false, Bool.true_and]
    obtain ⟨k2, rfl⟩ : ∃ m, k1 = m + L.length + 1 := ⟨k1 - L.length - 1, by omega⟩
    exact f_l0 L C T (by omega) h N L.length 0 k2 (by omega)
  · have e : ((T.length : Int) != (L.length : Int)) = true := by rw [bne_iff_ne]; omega
    rw [e, decide_eq_false h]
    rfl
theorem okP_of {L : List S25} {C : List Int} {N : Int} (hV : lots_Valid.f L C N = some none) : OkP L C := by
  obtain ⟨a, b, c, _⟩ := Valid_none hV
  exact ⟨by omega, fun x hx => (b x hx).1, fun x hx => (b x hx).2, by omega⟩
theorem Worth_g {L : List S25} {C : List Int} {N : Int} (hV : lots_Valid.f L C N = some none) (T : List Int) (k : Nat) (hk : 20 < k) : lots_Worth.f k L C N T = some (if fitB L T = true then (gW L C T, true) else (0, false)) := by
  unfold lots_Worth.f
  rw [fits_g hV T k hk, Option.bind_some]
  by_cases h : fitB L T = true
  · rw [if_pos h, if_pos h, worth_g (okP_of hV) ((fitB_iff L T).1 h) N k hk]; rfl
  · rw [if_neg h, if_neg h]
theorem Worth_ok {L : List S25} {C : List Int} {N : Int} (hV : lots_Valid.f L C N = some none) {T : List Int} (hT : okT L T) (k : Nat) (hk : 20 < k) : lots_Worth.f k L C N T = some (gW L C T, true) := by
  rw [Worth_g hV T k hk, if_pos ((fitB_iff L T).2 hT)]
/-- All of each lot. -/
def wh (L : List S25) : List Int := L.map (fun x => x.f0)
theorem wh_get (L : List S25) (i : Nat) (h : i < L.length) : (wh L).getD i 0 = (lt L i).f0 := by
  unfold wh lt; rw [List.getD_eq_getElem?_getD, List.getElem?_map, List.getElem?_eq_getElem h, List.getD_eq_getElem?_getD, List.getElem?_eq_getElem h]; rfl
theorem wh_ok {L : List S25} (ok : ∀ x ∈ L, okL x) : okT L (wh L) := by
  refine ⟨by unfold wh; exact List.length_map _, fun i hi => ?_⟩
  rw [wh_get L i hi]
  have := (lt_ok ok i hi).1
  omega
theorem wh_take (L : List S25) (i : Nat) (h : i < L.length) : (wh L).take i ++ [(lt L i).f0] = (wh L).take (i + 1) := by
  have hl : i < (wh L).length := by unfold wh; rw [List.length_map]; exact h
  rw [List.take_succ_eq_append_getElem hl, ← wh_get L i h, List.getD_eq_getElem?_getD, List.getElem?_eq_getElem hl]; rfl
theorem wh_l0 (L : List S25) (hL : L.length ≤ 8) : ∀ (d i k : Nat), i + d = L.length → lots_whole.l0 (k + d + 1) ((wh L).take i) L (L.length : Int) (i : Int) = some (wh L)
  | 0, i, k, h => by
    obtain rfl : i = L.length := by omega
    simp only [Nat.add_zero, lots_whole.l0]
    rw [if_neg (by omega), List.take_of_length_le (by unfold wh; rw [List.length_map]; omega)]
  | d + 1, i, k, h => by
    have ih := wh_l0 L hL d (i + 1) k (by omega)
    obtain ⟨K, hK⟩ : ∃ K, K = k + d + 1 := ⟨_, rfl⟩
    rw [← hK] at ih
    rw [show k + (d + 1) + 1 = K + 1 by omega]
    simp only [lots_whole.l0]
    rw [if_pos (by omega), if_pos (by omega), if_pos (by omega), if_pos (by rw [List.length_take]; omega), rd_lt, wh_take L i (by omega), wn i (by omega), ih]
theorem whole_g (L : List S25) (C : List Int) (N : Int) (hL : L.length ≤ 8) (k : Nat) (hk : 20 < k) : lots_whole.f k L C N = some (wh L) := by
  unfold lots_whole.f
  obtain ⟨k1, rfl⟩ : ∃ m, k = m + L.length + 1 := ⟨k - L.length - 1, by omega⟩
  exact wh_l0 L hL L.length 0 k1 (by omega)
theorem Most_g {L : List S25} {C : List Int} {N : Int} (hV : lots_Valid.f L C N = some none) (k : Nat) (hk : 20 < k) : lots_Most.f k L C N = some (gW L C (wh L)) := by
  unfold lots_Most.f
  rw [whole_g L C N (okP_of hV).l8 k hk, Option.bind_some, Worth_ok hV (wh_ok (okP_of hV).lots) k hk]
  rfl
theorem ints_l0 (l : List Int) (hl : l.length ≤ 1000) : ∀ (d i k : Nat), i + d = l.length → pledgeref_Ints.l0 (k + d + 1) l (l.take i) (i : Int) = some l
  | 0, i, k, h => by
    obtain rfl : i = l.length := by omega
    simp only [Nat.add_zero, pledgeref_Ints.l0]
    rw [if_neg (by omega), List.take_length]
  | d + 1, i, k, h => by
    have ih := ints_l0 l hl d (i + 1) k (by omega)
    obtain ⟨K, hK⟩ : ∃ K, K = k + d + 1 := ⟨_, rfl⟩
    rw [← hK] at ih
    rw [show k + (d + 1) + 1 = K + 1 by omega]
    have hi : i < l.length := by omega
    have e : l.take i ++ [l.getD i 0] = l.take (i + 1) := by
      rw [List.take_succ_eq_append_getElem hi, List.getD_eq_getElem?_getD, List.getElem?_eq_getElem hi]; rfl
    simp only [pledgeref_Ints.l0]
    rw [if_pos (by omega), if_pos (by omega), if_pos (by rw [List.length_take]; omega), rd_nat', e, wn i (by omega), ih]
theorem ints_g (l : List Int) (hl : l.length ≤ 1000) (k : Nat) (hk : 1010 < k) : pledgeref_Ints.f k l = some l := by
  unfold pledgeref_Ints.f
  rw [if_pos (by omega), if_pos (by omega)]
  obtain ⟨k1, rfl⟩ : ∃ m, k = m + l.length + 1 := ⟨k - l.length - 1, by omega⟩
  exact ints_l0 l hl l.length 0 k1 (by omega)
theorem set_back (T : List Int) (j : Nat) (v : Int) (hj : j < T.length) : (T.set j v).set j (T.getD j 0) = T := by
  rw [List.set_set, List.getD_eq_getElem?_getD, List.getElem?_eq_getElem hj]
  exact List.set_getElem_self hj
theorem ok_set {L : List S25} {T : List Int} (hT : okT L T) (j : Nat) (v : Int) (hj : j < L.length) (h0 : 0 ≤ v) (h1 : v ≤ (lt L j).f0) : okT L (T.set j v) := by
  refine ⟨by rw [set_len]; exact hT.1, fun i hi => ?_⟩
  rw [getD_set T j i v (by rw [hT.1]; exact hj)]
  by_cases h : i = j
  · subst h; rw [if_pos rfl]; exact ⟨h0, h1⟩
  · rw [if_neg h]; exact hT.2 i hi
theorem c_l0 {L : List S25} {C T : List Int} (P : OkP L C) (hT : okT L T) (N : Int) : ∀ (d i k : Nat), i + d = L.length → lots_Cost.l0 (k + d + 1) (gK L T i) T (T.length : Int) (i : Int) L C N = some (gK L T L.length, true)
  | 0, i, k, h => by
    obtain rfl : i = L.length := by omega
    have hT1 := hT.1
    simp only [Nat.add_zero, lots_Cost.l0]
    rw [if_neg (by omega)]
  | d + 1, i, k, h => by
    have ih := c_l0 P hT N d (i + 1) k (by omega)
    have hT1 := hT.1
    have hl8 := P.l8
    have hi : i < L.length := by omega
    have b1 := gK_bd P.lots hT i (by omega)
    have b2 := pk_bd P.lots hT i hi
    have ew1 : wrap64 (T.getD i 0 * (lt L i).f2) = T.getD i 0 * (lt L i).f2 := w64m _ (by omega) (by omega)
    have ew2 : wrap64 (gK L T i + T.getD i 0 * (lt L i).f2) = gK L T (i + 1) := w64m _ (by omega) (by omega)
    obtain ⟨K, hK⟩ : ∃ K, K = k + d + 1 := ⟨_, rfl⟩
    rw [← hK] at ih
    rw [show k + (d + 1) + 1 = K + 1 by omega]
    simp only [lots_Cost.l0]
    rw [if_pos (by omega), if_pos (by omega), if_pos (by omega), if_pos (by omega), rd_lt, rd_nat', ew1, ew2, wn i (by omega), ih]
theorem Cost_g {L : List S25} {C : List Int} {N : Int} (hV : lots_Valid.f L C N = some none) {T : List Int} (hT : okT L T) (k : Nat) (hk : 20 < k) : lots_Cost.f k L C N T = some (gK L T L.length, true) := by
  have hl8 := (okP_of hV).l8
  unfold lots_Cost.f
  rw [fits_g hV T k hk, Option.bind_some, if_pos ((fitB_iff L T).2 hT)]
  obtain ⟨k1, rfl⟩ : ∃ m, k = m + L.length + 1 := ⟨k - L.length - 1, by omega⟩
  exact c_l0 (okP_of hV) hT N L.length 0 k1 (by omega)
/-- No caps at all. -/
def zs (m : Nat) : List Int := List.replicate m 0
theorem zs_len (m : Nat) : (zs m).length = m := List.length_replicate
theorem zs_get (m p : Nat) : (zs m).getD p 0 = 0 := by
  unfold zs; rw [List.getD_eq_getElem?_getD, List.getElem?_replicate]; split <;> rfl
theorem zs_succ (m : Nat) : zs m ++ [0] = zs (m + 1) := by unfold zs; rw [List.replicate_succ']
theorem valid_zs {L : List S25} {C : List Int} {N : Int} (hV : lots_Valid.f L C N = some none) : lots_Valid.f L (zs C.length) N = some none := by
  have e : ((zs C.length).any fun n => !inB n 1000000000000) = false := List.any_eq_false.2 fun x hx => by
    rw [List.eq_of_mem_replicate hx]; simp [inB]
  unfold lots_Valid.f at hV ⊢
  rw [zs_len]
  have h := Option.some.inj hV
  by_cases h1 : L.length = 0 ∨ 8 < L.length ∨ C.length = 0 ∨ 8 < C.length
  · rw [if_pos h1] at h; cases h
  · rw [if_neg h1] at h
    rw [if_neg h1]
    by_cases h2 : (L.any fun x => !lotB x (C.length : Int)) = true ∨ (C.any fun n => !inB n 1000000000000) = true ∨ inB N 1000000000000 = false
    · rw [if_pos h2] at h; cases h
    · rw [if_neg]
      rw [e]
      intro h3
      rcases h3 with h3 | h3 | h3
      · exact h2 (.inl h3)
      · cases h3
      · exact h2 (.inr (.inr h3))
theorem law_l0 {L : List S25} {C : List Int} {N : Int} (hV : lots_Valid.f L C N = some none) {T : List Int} (hT : okT L T) (a : Nat) (ha : a < L.length) (hne : T.getD a 0 ≠ (lt L a).f0) :
    ∀ (d i k : Nat), i + d = C.length → d + 100 < k →
    pledgelaw18_LotsGrow.l0 k T (a : Int) (gW L C T) (T.set a (T.getD a 0 + 1)) (gW L C (T.set a (T.getD a 0 + 1))) true (gK L T L.length) (gK L (T.set a (T.getD a 0 + 1)) L.length) (i : Int) L C N L (zs i) N = some true
  | 0, i, k, h, hk => by
    obtain ⟨k, rfl⟩ : ∃ m, k = m + 1 := ⟨k - 1, by omega⟩
    obtain rfl : i = C.length := by omega
    have P := okP_of hV
    have hl8 := P.l8
    have hc8 := P.c8
    have hT1 := hT.1
    have okj := lt_ok P.lots a ha
    obtain ⟨t0, t1⟩ := hT.2 a ha
    have hY : okT L (T.set a (T.getD a 0 + 1)) := ok_set hT a _ ha (by omega) (by omega)
    have hVz := valid_zs hV
    have hg := P.grp _ (lt_mem L a ha)
    have haT : a < T.length := by omega
    have q1 := gV_set L C T a haT okj.2.1.1 C.length
    have q2 := gV_free L (zs C.length) T (fun p => by rw [zs_get]; exact Int.le_refl _) a haT C.length
    rw [if_pos ⟨hg.2, hg.1⟩] at q1 q2
    have q3 := gV_caps L C (zs C.length) T (fun p => by rw [zs_get]; exact Int.le_refl _) (fun g => by rw [hT1]; exact (gS_bd P.lots hT g L.length (Nat.le_refl _)).1) C.length
    have q4 := gK_set L T a 1 haT L.length
    rw [if_pos ha] at q4
    have b1 := gV_bd (C := C) P.lots hT hl8 C.length
    have b2 := gV_bd (C := C) P.lots hY hl8 C.length
    have b3 := gK_bd P.lots hT L.length (Nat.le_refl _)
    have b4 := gK_bd P.lots hY L.length (Nat.le_refl _)
    have b5 := gV_bd (C := zs C.length) P.lots hT hl8 C.length
    have b6 := gV_bd (C := zs C.length) P.lots hY hl8 C.length
    have q5 : gW L C (T.set a (T.getD a 0 + 1)) ≤ gW L C (wh L) := gV_le P.lots hY (wh_ok P.lots) (fun i hi => by rw [wh_get L i hi]; exact (hY.2 i hi).2) _
    have eW : ∀ U, gW L C U = gV L C U C.length := fun _ => rfl
    have eZ : ∀ U, gW L (zs C.length) U = gV L (zs C.length) U C.length := fun U => by unfold gW; rw [zs_len]
    simp only [pledgelaw18_LotsGrow.l0]
    rw [if_neg (by omega), Worth_ok hVz hT k (by omega), Option.bind_some, Worth_ok hVz hY k (by omega), Option.bind_some]
    simp only []
    rw [eZ, eZ, rd_lt, w64m (gV L (zs C.length) (T.set a (T.getD a 0 + 1)) C.length - gV L (zs C.length) T C.length) (by omega) (by omega), Most_g hV k (by omega)]
    rw [eW T, eW (T.set a (T.getD a 0 + 1))] at *
    rw [w64m (gV L C (T.set a (T.getD a 0 + 1)) C.length - gV L C T C.length) (by omega) (by omega), w64m (gK L (T.set a (T.getD a 0 + 1)) L.length - gK L T L.length) (by omega) (by omega)]
    rw [if_pos trivial, if_pos (by omega), if_pos (by omega), if_pos (by omega), if_pos (by omega), if_pos (by omega), if_pos (by omega), if_pos (by omega), Option.bind_some, decide_eq_true (by omega)]
    obtain ⟨k, rfl⟩ : ∃ m, k = m + 1 := ⟨k - 1, by omega⟩
    simp only [pledgelaw18_LotsGrow.j2]
  | d + 1, i, k, h, hk => by
    obtain ⟨k, rfl⟩ : ∃ m, k = m + 1 := ⟨k - 1, by omega⟩
    have hc8 := (okP_of hV).c8
    simp only [pledgelaw18_LotsGrow.l0]
    rw [if_pos (by omega), zs_len, if_pos (by omega), wn i (by omega), zs_succ]
    exact law_l0 hV hT a ha hne d (i + 1) k (by omega) (by omega)
theorem law_j0 {L : List S25} {C : List Int} {N : Int} (hV : lots_Valid.f L C N = some none) {T : List Int} (hT : okT L T) (at_ : Int) (k : Nat) (hk : 20000 < k) : pledgelaw18_LotsGrow.j0 (k + 1) T at_ true (gW L C T) false L C N = some true := by
  have P := okP_of hV
  have hl8 := P.l8
  have hl0 := (Valid_none hV).1.1
  have hT1 := hT.1
  simp only [pledgelaw18_LotsGrow.j0]
  have m0 := Int.emod_nonneg at_ (show (T.length : Int) ≠ 0 by omega)
  have m1 := Int.emod_lt_of_pos at_ (show (0 : Int) < (T.length : Int) by omega)
  rw [if_neg (by simp), number_eq at_ _ (by omega) (by omega), Option.bind_some]
  generalize at_ % (T.length : Int) = q at m0 m1 ⊢
  obtain ⟨a, rfl⟩ := Int.eq_ofNat_of_zero_le m0
  have ha : a < L.length := by omega
  obtain ⟨t0, t1⟩ := hT.2 a ha
  have hu : (lt L a).f0 ≤ 1000 := (lt_ok P.lots a ha).1.2
  rw [if_pos (by omega), if_pos (by omega), if_pos (by omega), rd_nat', rd_lt]
  by_cases he : T.getD a 0 = (lt L a).f0
  · rw [if_pos he]
  · have hY : okT L (T.set a (T.getD a 0 + 1)) := ok_set hT a _ ha (by omega) (by omega)
    rw [if_neg he, ints_g T (by omega) k (by omega), Option.bind_some, if_pos (by omega), rd_nat', w64m _ (by omega) (by omega), Int.toNat_natCast, Option.bind_some, Worth_ok hV hY k (by omega), Option.bind_some, Cost_g hV hT k (by omega), Option.bind_some, Cost_g hV hY k (by omega), Option.bind_some]
    exact law_l0 hV hT a ha he C.length 0 k (by omega) (by have := P.c8; omega)
end Go.Proofs.YtlalofmilhakjaaDoor.PrLotsGrow
namespace Go.Proofs.YtlalofmilhakjaaDoor.Pr
open Go.RowKit Go.Proofs.YtlalofmilhakjaaDoor.ELotsGrow Go.Proofs.YtlalofmilhakjaaDoorW.PrintWords Go.Proofs.YtlalofmilhakjaaDoorW.PrintLast Go.Proofs.YtlalofmilhakjaaDoorW.PrintMore Go.Proofs.YtlalofmilhakjaaDoorW.PrintOpen Go.Proofs.YtlalofmilhakjaaDoor.PrLotsGrow
theorem LotsGrow : pledgelaw18_LotsGrow.Pure := by
  intro L C N T at_ _ _ _ _ _ _
  obtain ⟨k, hk⟩ : ∃ k : Nat, 20000 < k := ⟨20001, by omega⟩
  refine ⟨k + 1, ?_⟩
  have j1 : ∀ w : Int, pledgelaw18_LotsGrow.j0 (k + 1) T at_ true w true L C N = some true := fun w => by simp only [pledgelaw18_LotsGrow.j0]; rw [if_pos trivial]
  unfold pledgelaw18_LotsGrow.f
  rw [first_eq (k + 1) (by omega), Option.bind_some, if_pos rfl]
  obtain ⟨b, hb⟩ : ∃ b, pledgelaw18_light.f L C N = some b := by
    unfold pledgelaw18_light.f; split
    · exact ⟨_, rfl⟩
    · exact ⟨_, rfl⟩
  obtain ⟨r, hr⟩ := Valid_ex L C N
  cases r with
  | some c =>
    have hW : lots_Worth.f (k + 1) L C N T = some (0, false) := by
      unfold lots_Worth.f lots_fits.f
      rw [hr, Option.bind_some, if_neg (by simp)]
      simp only [lots_fits.j0]
      rw [if_pos trivial, Option.bind_some, if_neg (by simp)]
    rw [hW, Option.bind_some, hb, Option.bind_some]
    cases b with
    | false => rw [if_neg (by simp)]; exact j1 _
    | true => rw [if_pos rfl, if_neg (by simp)]; exact j1 _
  | none =>
    rw [Worth_g hr T (k + 1) (by omega)]
    by_cases hf : fitB L T = true
    · rw [if_pos hf, Option.bind_some, hb, Option.bind_some]
      cases b with
      | false => rw [if_neg (by simp)]; exact j1 _
      | true =>
        have hT := (fitB_iff L T).1 hf
        have hT1 := hT.1
        have hl0 := (Valid_none hr).1.1
        rw [if_pos rfl, if_pos rfl, if_neg (by omega)]
        exact law_j0 hr hT at_ k hk
    · rw [if_neg hf, Option.bind_some, hb, Option.bind_some]
      cases b with
      | false => rw [if_neg (by simp)]; exact j1 _
      | true => rw [if_pos rfl, if_neg (by simp)]; exact j1 _
end Go.Proofs.YtlalofmilhakjaaDoor.Pr
