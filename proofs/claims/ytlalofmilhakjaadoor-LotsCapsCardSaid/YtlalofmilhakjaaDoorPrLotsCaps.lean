/- A group counts at most its cap, whatever is taken of it: the pure statement of LotsCaps, for all numbers. Conditions: none beyond the statement's own. -/
import Derived.Test.YtlalofmilhakjaaDoorELotsCapsx
import Derived.Test.YtlalofmilhakjaaDoorOpen
namespace Go.Proofs.YtlalofmilhakjaaDoor.PrLotsCaps
open Go.RowKit Go.Proofs.YtlalofmilhakjaaDoor.ELotsCaps Go.Proofs.YtlalofmilhakjaaDoorW.PrintWords Go.Proofs.YtlalofmilhakjaaDoorW.PrintLast Go.Proofs.YtlalofmilhakjaaDoorW.PrintMore Go.Proofs.YtlalofmilhakjaaDoorW.PrintOpen
set_option linter.unusedSimpArgs false
set_option linter.unusedVariables false
theorem w64 (x : Int) (h1 : -9223372036854775808 ≤ x) (h2 : x ≤ 9223372036854775807) : wrap64 x = x := by unfold wrap64; omega
theorem w64s (x : Int) (h1 : -1000000000 ≤ x) (h2 : x ≤ 1000000000) : wrap64 x = x := by unfold wrap64; omega
theorem wu64 (n : Int) : IntKind.u64.wrap n = n % 18446744073709551616 := by simp [IntKind.wrap, IntKind.bits, IntKind.signed]
theorem rd_nat (l : List Int) (i : Nat) : rd l (i : Int) = l.getD i 0 := by unfold rd; rw [Int.toNat_natCast]
theorem rd_mem (l : List Int) (i : Nat) (h : i < l.length) : rd l (i : Int) ∈ l := by
  rw [rd_nat, List.getD_eq_getElem?_getD, List.getElem?_eq_getElem h]; exact List.getElem_mem h
theorem take_snoc_sum (l : List Int) (i : Nat) (h : i < l.length) : (l.take (i + 1)).sum = (l.take i).sum + rd l (i : Int) := by
  rw [List.take_succ_eq_append_getElem h, List.sum_append, rd_nat, List.getD_eq_getElem?_getD, List.getElem?_eq_getElem h]; simp
theorem and32 (x : Int) (h0 : 0 ≤ x) (h1 : x < 18446744073709551616) : Go.bits .and .u64 x 4294967295 = x % 4294967296 := by
  have := bits_mask .u64 64 (by decide) (fun n a b => by rw [wu64]; omega) 32 (by decide) x h0 (by omega)
  simpa using this
theorem pb (x y : Int) (hx : 0 ≤ x) (hx1 : x < 4294967296) (hy : 0 ≤ y) (hy1 : y < 4294967296) : 0 ≤ x * y ∧ x * y ≤ 18446744065119617025 := by
  refine ⟨Int.mul_nonneg hx hy, ?_⟩
  have := Int.mul_le_mul (show x ≤ 4294967295 by omega) (show y ≤ 4294967295 by omega) hy (by omega)
  omega
theorem split32 (a b : Int) : a * b = (a / 4294967296) * (b / 4294967296) * 18446744073709551616 + ((a / 4294967296) * (b % 4294967296) + (a % 4294967296) * (b / 4294967296)) * 4294967296 + (a % 4294967296) * (b % 4294967296) := by
  have h1 : a = (a / 4294967296) * 4294967296 + a % 4294967296 := by omega
  have h2 : b = (b / 4294967296) * 4294967296 + b % 4294967296 := by omega
  generalize a / 4294967296 = a1 at *
  generalize a % 4294967296 = a0 at *
  generalize b / 4294967296 = b1 at *
  generalize b % 4294967296 = b0 at *
  subst h1 h2
  grind
theorem Wide_eq (a b : Int) (ha0 : 0 ≤ a) (ha1 : a < 18446744073709551616) (hb0 : 0 ≤ b) (hb1 : b < 18446744073709551616) :
    fix_Wide.f a b = some (a * b / 18446744073709551616, a * b % 18446744073709551616) := by
  unfold fix_Wide.f
  simp only [wu64, and32 a ha0 ha1, and32 b hb0 hb1]
  have e := split32 a b
  obtain ⟨q1, q2⟩ := pb (a / 4294967296) (b / 4294967296) (by omega) (by omega) (by omega) (by omega)
  obtain ⟨q3, q4⟩ := pb (a / 4294967296) (b % 4294967296) (by omega) (by omega) (by omega) (by omega)
  obtain ⟨q5, q6⟩ := pb (a % 4294967296) (b / 4294967296) (by omega) (by omega) (by omega) (by omega)
  obtain ⟨q7, q8⟩ := pb (a % 4294967296) (b % 4294967296) (by omega) (by omega) (by omega) (by omega)
  generalize a / 4294967296 * (b / 4294967296) = p11 at *
  generalize a / 4294967296 * (b % 4294967296) = p10 at *
  generalize a % 4294967296 * (b / 4294967296) = p01 at *
  generalize a % 4294967296 * (b % 4294967296) = p00 at *
  generalize a * b = p at *
  rw [and32 _ (by omega) (by omega)]
  congr 2
  omega
theorem number_eq (v b : Int) (h0 : 0 < b) (h1 : b ≤ 1000000000) : pledgeworld_Number.f v b = some (v % b) := by
  unfold pledgeworld_Number.f
  rw [if_neg (by omega)]
  have h1 := Int.tmod_lt_of_pos v h0
  have h2 := Int.lt_tmod_of_pos v h0
  have h3 := Int.emod_nonneg v (show b ≠ 0 by omega)
  have h4 := Int.emod_lt_of_pos v h0
  have h5 := Int.emod_add_mul_ediv v b
  have h6 := Int.tmod_add_mul_tdiv v b
  have key : ∃ c : Int, Int.tmod v b = v % b + b * c := ⟨v / b - Int.tdiv v b, by rw [Int.mul_sub]; omega⟩
  obtain ⟨c, hc⟩ := key
  have hcc : c = 0 ∨ c = -1 := by
    have a1 : c < 1 := by
      apply Decidable.byContradiction; intro hx
      have : b * 1 ≤ b * c := Int.mul_le_mul_of_nonneg_left (by omega) (by omega)
      omega
    have a2 : -2 < c := by
      apply Decidable.byContradiction; intro hx
      have : b * c ≤ b * (-2) := Int.mul_le_mul_of_nonneg_left (by omega) (by omega)
      omega
    omega
  rcases hcc with rfl | rfl
  · rw [if_neg (by omega)]; congr 1; omega
  · rw [if_pos (by omega), w64s _ (by omega) (by omega)]; congr 1; omega
/-- A number of 64 bits with a sign. -/
def In64 (n : Int) : Prop := -9223372036854775808 ≤ n ∧ n ≤ 9223372036854775807
instance (n : Int) : Decidable (In64 n) := by unfold In64; infer_instance
theorem size_eq (a : Int) (h : In64 a) : fix_size.f a = some (if a < 0 then -a else a, decide (a < 0)) := by
  obtain ⟨h0, h1⟩ := h
  unfold fix_size.f
  by_cases hn : a < 0
  · rw [if_pos hn, if_pos hn, decide_eq_true hn, wu64, wu64]
    have : -(a % 18446744073709551616) % 18446744073709551616 = -a := by omega
    rw [this]
  · rw [if_neg hn, if_neg hn, decide_eq_false hn, wu64]
    have : a % 18446744073709551616 = a := by omega
    rw [this]
theorem abs_mul (a b : Int) : (if a < 0 then -a else a) * (if b < 0 then -b else b) = if (a < 0) ≠ (b < 0) then -(a * b) else a * b := by
  by_cases h1 : a < 0 <;> by_cases h2 : b < 0 <;> simp [h1, h2] <;> grind
theorem and_low (n : Int) : Go.bits .and .i64 n 4294967295 = n % 4294967296 := by
  have e : ((BitVec.ofInt 64 n) &&& (BitVec.ofInt 64 4294967295)).toNat = (n % 18446744073709551616).toNat % 2 ^ 32 := by
    rw [BitVec.toNat_and, BitVec.toNat_ofInt, show (BitVec.ofInt 64 4294967295).toNat = 2 ^ 32 - 1 from rfl, Nat.and_two_pow_sub_one_eq_mod]
    rfl
  show IntKind.i64.wrap (((BitVec.ofInt 64 n) &&& (BitVec.ofInt 64 4294967295)).toNat : Int) = _
  rw [e, IntKind.wrap_i64]
  omega
theorem or_halves (h l : Int) (h0 : -2147483648 ≤ h) (h1 : h ≤ 2147483647) (l0 : 0 ≤ l) (l1 : l < 4294967296) : Go.bits .or .i64 (wrap64 (h * 4294967296)) l = h * 4294967296 + l := by
  rw [w64 _ (by omega) (by omega)]
  obtain ⟨b, rfl⟩ := Int.eq_ofNat_of_zero_le l0
  have hb : b < 2 ^ 32 := by omega
  have ea : (BitVec.ofInt 64 (h * 4294967296)).toNat = 2 ^ 32 * (h % 4294967296).toNat := by
    rw [BitVec.toNat_ofInt, show ((2 ^ 64 : Nat) : Int) = 18446744073709551616 from rfl]
    omega
  have eb : (BitVec.ofInt 64 (b : Int)).toNat = b := by
    rw [BitVec.toNat_ofInt, show ((2 ^ 64 : Nat) : Int) = 18446744073709551616 from rfl]
    omega
  show IntKind.i64.wrap (((BitVec.ofInt 64 (h * 4294967296)) ||| (BitVec.ofInt 64 (b : Int))).toNat : Int) = _
  rw [BitVec.toNat_or, ea, eb, ← Nat.two_pow_add_eq_or_of_lt hb, IntKind.wrap_i64]
  omega
theorem xor_max (x : Int) (h0 : 0 ≤ x) (h1 : x < 18446744073709551616) : Go.bits .xor .u64 IntKind.u64.max x = 18446744073709551615 - x := by
  obtain ⟨n, rfl⟩ := Int.eq_ofNat_of_zero_le h0
  have en : (BitVec.ofInt 64 (n : Int)).toNat = n := by
    rw [BitVec.toNat_ofInt, show ((2 ^ 64 : Nat) : Int) = 18446744073709551616 from rfl]
    omega
  show IntKind.u64.wrap (((BitVec.ofInt 64 IntKind.u64.max) ^^^ (BitVec.ofInt 64 (n : Int))).toNat : Int) = _
  have em : BitVec.ofInt 64 IntKind.u64.max = BitVec.allOnes 64 := rfl
  rw [em, BitVec.allOnes_xor, BitVec.toNat_not, en, wu64]
  omega
/-- Sizes: how far a number is from 0. -/
def ab (a : Int) : Int := if a < 0 then -a else a
theorem ab_bd (a : Int) (h : In64 a) : 0 ≤ ab a ∧ ab a ≤ 9223372036854775808 := by unfold ab; obtain ⟨h0, h1⟩ := h; split <;> omega
theorem ab_mul (a b : Int) : ab a * ab b = if (decide (a < 0) != decide (b < 0)) = true then -(a * b) else a * b := by
  have := abs_mul a b
  unfold ab
  rw [this]
  by_cases h1 : a < 0 <;> by_cases h2 : b < 0 <;> simp [h1, h2]
theorem ab_prod (a b : Int) (ha : In64 a) (hb : In64 b) : 0 ≤ ab a * ab b ∧ ab a * ab b ≤ 85070591730234615865843651857942052864 := by
  obtain ⟨a0, a1⟩ := ab_bd a ha
  obtain ⟨b0, b1⟩ := ab_bd b hb
  refine ⟨Int.mul_nonneg a0 b0, ?_⟩
  have : ab a * ab b ≤ 9223372036854775808 * 9223372036854775808 := Int.mul_le_mul a1 b1 b0 (by omega)
  omega
theorem product_eq (a b : Int) (ha : In64 a) (hb : In64 b) : fix_product.f a b = some (a * b / 18446744073709551616, a * b % 18446744073709551616) := by
  unfold fix_product.f
  have ⟨a0, a1⟩ := ab_bd a ha
  have ⟨b0, b1⟩ := ab_bd b hb
  rw [size_eq a ha, size_eq b hb]
  simp only [Option.bind_some]
  rw [show (if a < 0 then -a else a) = ab a from rfl, show (if b < 0 then -b else b) = ab b from rfl, Wide_eq _ _ a0 (by omega) b0 (by omega)]
  simp only [Option.bind_some]
  have hm := ab_mul a b
  have ⟨p0, p1⟩ := ab_prod a b ha hb
  generalize ab a * ab b = P at *
  have hnb : (decide (a < 0) == decide (b < 0)) = !(decide (a < 0) != decide (b < 0)) := by simp [bne]
  rw [hnb]
  generalize (decide (a < 0) != decide (b < 0)) = neg at *
  clear hnb ha hb a0 a1 b0 b1
  have m0 := Int.emod_nonneg P (show (18446744073709551616 : Int) ≠ 0 by omega)
  have m1 := Int.emod_lt_of_pos P (show (0 : Int) < 18446744073709551616 by omega)
  have q0 : 0 ≤ P / 18446744073709551616 := by omega
  have q1 : P / 18446744073709551616 ≤ 4611686018427387904 := by omega
  have e := Int.emod_add_mul_ediv P 18446744073709551616
  cases neg with
  | false =>
    simp only [Bool.not_false, if_true, Bool.false_eq_true, if_false] at hm ⊢
    rw [w64 _ (by omega) (by omega), hm]
  | true =>
    simp only [Bool.not_true, Bool.false_eq_true, if_false, if_true] at hm ⊢
    rw [xor_max _ m0 m1, xor_max _ q0 (by omega), if_pos (by omega), wu64]
    have hX : a * b = -P := by omega
    rw [hX]
    congr 2
    · generalize P / 18446744073709551616 = q at *
      generalize P % 18446744073709551616 = r at *
      have hP : P = 18446744073709551616 * q + r := by omega
      subst hP
      clear hX hm p0 p1 e
      unfold wrap64
      by_cases hr : r = 0
      · subst hr; omega
      · omega
    · omega
theorem Or2 (x y : Int) (k : Nat) (hk : 3 < k) : cmp_Or_int.f k [x, y] = some (if x = 0 then y else x) := by
  unfold cmp_Or_int.f
  have hl : (([x, y] : List Int).length : Int) = 2 := rfl
  rw [hl]
  have r0 : rd [x, y] 0 = x := rfl
  have r1 : rd [x, y] 1 = y := rfl
  obtain ⟨k, rfl⟩ : ∃ m, k = m + 1 := ⟨k - 1, by omega⟩
  simp only [cmp_Or_int.l0]
  rw [if_pos (by omega), if_pos (by omega), hl, if_pos (by omega), r0, show wrap64 (0 + 1) = 1 from by rw [w64s _ (by omega) (by omega)]; rfl]
  by_cases hx : x = 0
  · rw [if_pos hx, if_pos hx]
    obtain ⟨k, rfl⟩ : ∃ m, k = m + 1 := ⟨k - 1, by omega⟩
    simp only [cmp_Or_int.l0]
    rw [if_pos (by omega), if_pos (by omega), hl, if_pos (by omega), r1, show wrap64 (1 + 1) = 2 from by rw [w64s _ (by omega) (by omega)]; rfl]
    by_cases hy : y = 0
    · rw [if_pos hy]
      obtain ⟨k, rfl⟩ : ∃ m, k = m + 1 := ⟨k - 1, by omega⟩
      simp only [cmp_Or_int.l0]
      rw [if_neg (by omega), hy]
    · rw [if_neg hy]
  · rw [if_neg hx, if_neg hx]
theorem Cmp64_eq (a b : Int) : cmp_Compare_int64.f a b = some (if a < b then -1 else if b < a then 1 else 0) := by
  unfold cmp_Compare_int64.f cmp_isNaN_int64.f
  simp only [Option.bind_some, bne_self_eq_false, Bool.false_eq_true, if_false]
  repeat' split
  all_goals first | rfl | omega
theorem CmpU_eq (a b : Int) : cmp_Compare_uint64.f a b = some (if a < b then -1 else if b < a then 1 else 0) := by
  unfold cmp_Compare_uint64.f cmp_isNaN_uint64.f
  simp only [Option.bind_some, bne_self_eq_false, Bool.false_eq_true, if_false]
  repeat' split
  all_goals first | rfl | omega
theorem lex_hi (X Y p r q s : Int) (hX : X = 18446744073709551616 * p + r) (hY : Y = 18446744073709551616 * q + s) (r0 : 0 ≤ r) (r1 : r < 18446744073709551616) (s0 : 0 ≤ s) (s1 : s < 18446744073709551616) :
    (if (if p < q then (-1 : Int) else if q < p then 1 else 0) = 0 then (if r < s then (-1 : Int) else if s < r then 1 else 0) else (if p < q then (-1 : Int) else if q < p then 1 else 0)) = if X < Y then -1 else if Y < X then 1 else 0 := by
  by_cases h1 : p < q
  · rw [if_pos h1, if_neg (show ¬ (-1 : Int) = 0 by omega), if_pos (show X < Y by omega)]
  · rw [if_neg h1]
    by_cases h2 : q < p
    · rw [if_pos h2, if_neg (show ¬ (1 : Int) = 0 by omega), if_neg (show ¬ X < Y by omega), if_pos (show Y < X by omega)]
    · rw [if_neg h2, if_pos rfl]
      obtain rfl : p = q := by omega
      by_cases h3 : r < s
      · rw [if_pos h3, if_pos (show X < Y by omega)]
      · rw [if_neg h3]
        by_cases h4 : s < r
        · rw [if_pos h4, if_neg (show ¬ X < Y by omega), if_pos (show Y < X by omega)]
        · rw [if_neg h4, if_neg (show ¬ X < Y by omega), if_neg (show ¬ Y < X by omega)]
theorem Cmp_eq (a b c d : Int) (ha : In64 a) (hb : In64 b) (hc : In64 c) (hd : In64 d) (k : Nat) (hk : 3 < k) :
    fix_Cmp.f k a b c d = some (if a * b < c * d then -1 else if c * d < a * b then 1 else 0) := by
  unfold fix_Cmp.f
  rw [product_eq a b ha hb, product_eq c d hc hd]
  generalize a * b = X
  generalize c * d = Y
  simp only [Option.bind_some]
  rw [Cmp64_eq, CmpU_eq]
  simp only [Option.bind_some]
  rw [Or2 _ _ k hk]
  simp only [Option.bind_some]
  rw [lex_hi X Y _ _ _ _ (by omega) (by omega) (by omega) (by omega) (by omega) (by omega)]
/-- A lot that may be. -/
def okL (x : S25) : Prop := (0 ≤ x.f0 ∧ x.f0 ≤ 1000) ∧ (0 ≤ x.f1 ∧ x.f1 ≤ 1000000000) ∧ (0 ≤ x.f2 ∧ x.f2 ≤ 1000000000)
theorem lotB_ok (x : S25) (n : Int) (h : lotB x n = true) : okL x ∧ 0 ≤ x.f3 ∧ x.f3 < n := by
  unfold lotB inB at h
  simp only [Bool.and_eq_true, decide_eq_true_eq] at h
  exact ⟨⟨h.1.1.1, h.1.1.2, h.1.2⟩, h.2⟩
theorem Valid_none {L : List S25} {C : List Int} {N : Int} (h : lots_Valid.f L C N = some none) : (0 < L.length ∧ L.length ≤ 8) ∧ (∀ x ∈ L, okL x ∧ 0 ≤ x.f3 ∧ x.f3 < (C.length : Int)) ∧ (0 < C.length ∧ C.length ≤ 8) ∧ (∀ n ∈ C, 0 ≤ n ∧ n ≤ 1000000000000) ∧ 0 ≤ N ∧ N ≤ 1000000000000 := by
  unfold lots_Valid.f at h
  have h := Option.some.inj h
  by_cases h1 : L.length = 0 ∨ 8 < L.length ∨ C.length = 0 ∨ 8 < C.length
  · rw [if_pos h1] at h; cases h
  · rw [if_neg h1] at h
    by_cases h2 : (L.any fun x => !lotB x (C.length : Int)) = true ∨ (C.any fun n => !inB n 1000000000000) = true ∨ inB N 1000000000000 = false
    · rw [if_pos h2] at h; cases h
    · simp only [not_or, List.any_eq_true, not_exists, not_and] at h2
      obtain ⟨a, b, c⟩ := h2
      refine ⟨by omega, fun x hx => lotB_ok x _ ?_, by omega, fun n hn => ?_, ?_⟩
      · have := a x hx; simpa using this
      · have := b n hn
        unfold inB at this; simp at this; exact this
      · unfold inB at c; simp at c; exact c
theorem Valid_ex (L : List S25) (C : List Int) (N : Int) : ∃ r, lots_Valid.f L C N = some r := ⟨_, rfl⟩
/-- The lot at a place. -/
def lt (L : List S25) (j : Nat) : S25 := L.getD j z25
theorem rd_lt (L : List S25) (j : Nat) : rd_T25 L (j : Int) = lt L j := by unfold rd_T25 lt; rw [Int.toNat_natCast]
theorem lt_mem (L : List S25) (j : Nat) (h : j < L.length) : lt L j ∈ L := by
  unfold lt; rw [List.getD_eq_getElem?_getD, List.getElem?_eq_getElem h]; exact List.getElem_mem h
theorem lt_ok {L : List S25} (ok : ∀ x ∈ L, okL x) (j : Nat) (h : j < L.length) : okL (lt L j) := ok _ (lt_mem L j h)
/-- Cheaper for what it is worth. -/
def chp (a b : S25) : Bool := if a.f1 = 0 then decide (a.f1 > b.f1) else if b.f1 = 0 then decide (a.f1 > b.f1) else decide (a.f2 * b.f1 < b.f2 * a.f1)
theorem Cheaper_eq (a b : S25) (ha : okL a) (hb : okL b) (k : Nat) (hk : 3 < k) : lots_Cheaper.f k a.f0 a.f1 a.f2 a.f3 b.f0 b.f1 b.f2 b.f3 = some (chp a b) := by
  unfold lots_Cheaper.f chp
  obtain ⟨_, a1, a2⟩ := ha
  obtain ⟨_, b1, b2⟩ := hb
  by_cases h1 : a.f1 = 0
  · rw [if_pos h1, if_pos h1]
  · rw [if_neg h1, if_neg h1]
    by_cases h2 : b.f1 = 0
    · rw [if_pos h2, if_pos h2]
    · rw [if_neg h2, if_neg h2, Cmp_eq _ _ _ _ (by unfold In64; omega) (by unfold In64; omega) (by unfold In64; omega) (by unfold In64; omega) k hk]
      simp only [Option.bind_some]
      congr 1
      generalize a.f2 * b.f1 = X
      generalize b.f2 * a.f1 = Y
      by_cases h3 : X < Y
      · rw [if_pos h3, decide_eq_true h3]; rfl
      · rw [if_neg h3, decide_eq_false h3]
        by_cases h4 : Y < X
        · rw [if_pos h4]; rfl
        · rw [if_neg h4]; rfl
theorem R10 (p : S25) : rd_T25 [p] 0 = p := rfl
theorem r10 (a : Int) : rd [a] 0 = a := rfl
theorem v1 : wrap64 1 = 1 := by unfold wrap64; omega
theorem v2 : wrap64 2 = 2 := by unfold wrap64; omega
theorem w1 : wrap64 (0 + 1) = 1 := by unfold wrap64; omega
theorem w2 : wrap64 (1 + 1) = 2 := by unfold wrap64; omega
theorem chk (p q : S25) (hp : okL p) (hq : okL q) : lots_Cheaper.f ordK p.f0 p.f1 p.f2 p.f3 q.f0 q.f1 q.f2 q.f3 = some (chp p q) := Cheaper_eq p q hp hq ordK (by unfold ordK; omega)
theorem chE (p q : S25) (hp : okL p) (hq : okL q) : ELotsCaps.chp p q = chp p q := by
  unfold ELotsCaps.chp
  rw [chk p q hp hq]; rfl
theorem ord_ok (L : List S25) (h0 : 0 < L.length) (h1 : L.length < 20) (h : ∀ x ∈ L, okL x) : ordOK L = true := by
  have hr : ∀ i : Nat, i < L.length → okL (rd_T25 L i) := fun i hi => by rw [rd_lt]; exact lt_ok h i hi
  unfold ordOK
  rw [Bool.and_eq_true, Bool.and_eq_true]
  refine ⟨⟨decide_eq_true h0, decide_eq_true h1⟩, List.all_eq_true.2 fun i hi => List.all_eq_true.2 fun j hj => ?_⟩
  rw [chk _ _ (hr i (List.mem_range.1 hi)) (hr j (List.mem_range.1 hj))]
  rfl
theorem okx (x c : Int) (hx : 0 ≤ x) (hx1 : x ≤ 1000) (hc : 0 ≤ c) (hc1 : c ≤ 1000) (v : Int) (hv : 0 ≤ v) (hv1 : v ≤ 1000) : okL (⟨x, v, c, 0⟩ : S25) := by unfold okL; simp only; omega
theorem order1 (p : S25) (hp : okL p) : lots_Order.f [p] = some [0] := by
  unfold lots_Order.f
  rw [if_pos (ord_ok _ (by simp) (by simp) (by intro z hz; simp only [List.mem_cons, List.not_mem_nil, or_false] at hz; subst hz; exact hp))]
  unfold ordF
  show some (Go.Sort.insertionSort (ltI (ordC _)) (ixs 1).toArray 0 1).toList = _
  unfold Go.Sort.insertionSort
  rw [Go.Sort.insOuter, if_neg (by omega)]
  rfl
theorem valid1 : lots_Valid.f [(⟨3, 5, 1, 0⟩ : S25)] [0] 0 = some none := by rfl
theorem worth1 (a : Int) (ha : 0 ≤ a) (ha' : a ≤ 1000) (k : Nat) (hk : 6 < k) : lots_worth.f k [(⟨3, 5, 1, 0⟩ : S25)] [0] 0 [a] = some (5 * a) := by
  have e1 : wrap64 (a * 5) = 5 * a := by unfold wrap64; omega
  have e3 : wrap64 (0 + 5 * a) = 5 * a := by unfold wrap64; omega
  have f3 : wrap64 (5 * a) = 5 * a := by unfold wrap64; omega
  unfold lots_worth.f
  rw [if_pos (by simp), if_pos (by simp)]
  show lots_worth.l0 k [0] [a] 1 0 _ [0] 0 = _
  obtain ⟨k, rfl⟩ : ∃ m, k = m + 1 := ⟨k - 1, by omega⟩
  have h1 : lots_worth.l0 (k + 1) [0] [a] 1 0 [(⟨3, 5, 1, 0⟩ : S25)] [0] 0 = lots_worth.l0 k [5 * a] [a] 1 1 [(⟨3, 5, 1, 0⟩ : S25)] [0] 0 := by
    simp [lots_worth.l0, R10, r10, e1, e3, f3, w1, v1]
  rw [h1]
  clear h1
  obtain ⟨k, rfl⟩ : ∃ m, k = m + 1 := ⟨k - 1, by omega⟩
  have h1 : lots_worth.l0 (k + 1) [5 * a] [a] 1 1 [(⟨3, 5, 1, 0⟩ : S25)] [0] 0 = lots_worth.l1 k 0 [5 * a] 1 0 [(⟨3, 5, 1, 0⟩ : S25)] [0] 0 := by
    simp [lots_worth.l0]
  rw [h1]
  clear h1
  obtain ⟨k, rfl⟩ : ∃ m, k = m + 1 := ⟨k - 1, by omega⟩
  have h1 : lots_worth.l1 (k + 1) 0 [5 * a] 1 0 [(⟨3, 5, 1, 0⟩ : S25)] [0] 0 = lots_worth.l1 k (5 * a) [5 * a] 1 1 [(⟨3, 5, 1, 0⟩ : S25)] [0] 0 := by
    simp [lots_worth.l1, r10, e3, f3, w1, v1]
  rw [h1]
  clear h1
  obtain ⟨k, rfl⟩ : ∃ m, k = m + 1 := ⟨k - 1, by omega⟩
  simp [lots_worth.l1]
theorem greedy1 (k : Nat) (hk : 20 < k) : lots_Greedy.f k [(⟨3, 5, 1, 0⟩ : S25)] [0] 0 = some ([0], true) := by
  unfold lots_Greedy.f
  rw [valid1]
  simp only [Option.bind_some, Option.isNone_none]
  rw [if_pos trivial, if_pos (by simp), if_pos (by simp)]
  show (lots_worth.f k _ [0] 0 [0]).bind _ = _
  rw [worth1 0 (by omega) (by omega) k (by omega), Option.bind_some, order1 _ (okx 3 1 (by omega) (by omega) (by omega) (by omega) 5 (by omega) (by omega)), Option.bind_some]
  show lots_Greedy.l0 k [0] 0 [0] 1 0 _ [0] 0 = _
  obtain ⟨k, rfl⟩ : ∃ m, k = m + 1 := ⟨k - 1, by omega⟩
  have h1 : lots_Greedy.l0 (k + 1) [0] 0 [0] 1 0 [(⟨3, 5, 1, 0⟩ : S25)] [0] 0 = lots_Greedy.l1 k [0] 0 0 [0] 1 0 [(⟨3, 5, 1, 0⟩ : S25)] [0] 0 := by
    simp [lots_Greedy.l0, r10]
  rw [h1]
  clear h1
  obtain ⟨k, rfl⟩ : ∃ m, k = m + 1 := ⟨k - 1, by omega⟩
  have h1 : lots_Greedy.l1 (k + 1) [0] 0 0 [0] 1 0 [(⟨3, 5, 1, 0⟩ : S25)] [0] 0 = lots_Greedy.j2 k [0] 0 0 [0] 1 0 false [(⟨3, 5, 1, 0⟩ : S25)] [0] 0 := by
    simp [lots_Greedy.l1]
  rw [h1]
  clear h1
  obtain ⟨k, rfl⟩ : ∃ m, k = m + 1 := ⟨k - 1, by omega⟩
  have h1 : lots_Greedy.j2 (k + 1) [0] 0 0 [0] 1 0 false [(⟨3, 5, 1, 0⟩ : S25)] [0] 0 = lots_Greedy.l0 k [0] 0 [0] 1 1 [(⟨3, 5, 1, 0⟩ : S25)] [0] 0 := by
    simp [lots_Greedy.j2, w1, v1]
  rw [h1]
  clear h1
  obtain ⟨k, rfl⟩ : ∃ m, k = m + 1 := ⟨k - 1, by omega⟩
  simp [lots_Greedy.l0]
theorem whole1 (k : Nat) (hk : 5 < k) : lots_whole.f k [(⟨3, 5, 1, 0⟩ : S25)] [0] 0 = some [3] := by
  unfold lots_whole.f
  show lots_whole.l0 k [] _ 1 0 = _
  obtain ⟨k, rfl⟩ : ∃ m, k = m + 1 := ⟨k - 1, by omega⟩
  have h1 : lots_whole.l0 (k + 1) [] [(⟨3, 5, 1, 0⟩ : S25)] 1 0 = lots_whole.l0 k [3] [(⟨3, 5, 1, 0⟩ : S25)] 1 1 := by
    simp [lots_whole.l0, R10, w1, v1]
  rw [h1]
  clear h1
  obtain ⟨k, rfl⟩ : ∃ m, k = m + 1 := ⟨k - 1, by omega⟩
  simp [lots_whole.l0]
theorem fits1 (k : Nat) (hk : 8 < k) : lots_fits.f k [(⟨3, 5, 1, 0⟩ : S25)] [0] 0 [3] = some true := by
  unfold lots_fits.f
  rw [valid1]
  simp only [Option.bind_some, Option.isNone_none]
  rw [if_pos trivial]
  show lots_fits.j0 k [3] false _ [0] 0 = _
  obtain ⟨k, rfl⟩ : ∃ m, k = m + 1 := ⟨k - 1, by omega⟩
  have h1 : lots_fits.j0 (k + 1) [3] false [(⟨3, 5, 1, 0⟩ : S25)] [0] 0 = lots_fits.l0 k [3] 1 0 [(⟨3, 5, 1, 0⟩ : S25)] [0] 0 := by
    simp [lots_fits.j0]
  rw [h1]
  clear h1
  obtain ⟨k, rfl⟩ : ∃ m, k = m + 1 := ⟨k - 1, by omega⟩
  have h1 : lots_fits.l0 (k + 1) [3] 1 0 [(⟨3, 5, 1, 0⟩ : S25)] [0] 0 = lots_fits.l0 k [3] 1 1 [(⟨3, 5, 1, 0⟩ : S25)] [0] 0 := by
    simp [lots_fits.l0, r10, R10, w1, v1]
  rw [h1]
  clear h1
  obtain ⟨k, rfl⟩ : ∃ m, k = m + 1 := ⟨k - 1, by omega⟩
  simp [lots_fits.l0]
theorem first_eq (k : Nat) (hk : 100 < k) : pledgelaw18_first.f k = some true := by
  unfold pledgelaw18_first.f
  simp only [Option.bind_some]
  rw [greedy1 k (by omega)]
  simp only [Option.bind_some]
  rw [if_pos trivial, if_pos (by simp), if_pos (by simp), if_pos (by rfl)]
  unfold lots_Most.f lots_Worth.f
  rw [whole1 k (by omega), Option.bind_some, fits1 k (by omega), Option.bind_some, if_pos rfl, worth1 3 (by omega) (by omega) k (by omega)]
  rfl
abbrev L3 : List S25 := [(⟨1000, 3, 1, 0⟩ : S25), (⟨1000, 5, 2, 1⟩ : S25), (⟨1000, 7, 0, 1⟩ : S25)]
theorem Q0 : rd_T25 L3 0 = ⟨1000, 3, 1, 0⟩ := rfl
theorem Q1 : rd_T25 L3 1 = ⟨1000, 5, 2, 1⟩ := rfl
theorem Q2 : rd_T25 L3 2 = ⟨1000, 7, 0, 1⟩ := rfl
theorem q0 (a b c : Int) : rd [a, b, c] 0 = a := rfl
theorem q1 (a b c : Int) : rd [a, b, c] 1 = b := rfl
theorem q2 (a b c : Int) : rd [a, b, c] 2 = c := rfl
theorem p0 (a b : Int) : rd [a, b] 0 = a := rfl
theorem p1 (a b : Int) : rd [a, b] 1 = b := rfl
theorem w3 : wrap64 (2 + 1) = 3 := by unfold wrap64; omega
theorem v3 : wrap64 3 = 3 := by unfold wrap64; omega
theorem valid3 (t : Int) (ht : 0 ≤ t) (ht1 : t < 9000) : lots_Valid.f L3 [0, t] 0 = some none := by
  have a1 : inB 1000 1000 = true := rfl
  have a2 : inB t 1000000000000 = true := decide_eq_true ⟨ht, by omega⟩
  have a3 : inB 0 1000000000000 = true := rfl
  have a4 : inB 3 1000000000 = true := rfl
  have a5 : inB 5 1000000000 = true := rfl
  have a6 : inB 7 1000000000 = true := rfl
  have a7 : inB 1 1000000000 = true := rfl
  have a8 : inB 2 1000000000 = true := rfl
  have a9 : inB 0 1000000000 = true := rfl
  unfold lots_Valid.f
  simp [lotB, a1, a2, a3, a4, a5, a6, a7, a8, a9]
theorem fits_step0 (x : Int) (l : List Int) (hx : 0 ≤ x) (hx1 : x ≤ 1000) (n t : Int) (hn : 0 < n) (hl : 0 < l.length) (hr : rd l 0 = x) (k : Nat) : lots_fits.l0 (k + 1) l n 0 L3 [0, t] 0 = lots_fits.l0 k l n 1 L3 [0, t] 0 := by
  have c1 : ¬ x < 0 := by omega
  have c2 : ¬ x > 1000 := by omega
  simp only [lots_fits.l0, hr, Q0, w1]
  rw [if_pos hn, if_pos (by omega), if_pos (by omega), if_neg c1, if_pos (by simp), if_neg c2]
theorem fits_step1 (x : Int) (l : List Int) (hx : 0 ≤ x) (hx1 : x ≤ 1000) (n t : Int) (hn : 1 < n) (hl : 1 < l.length) (hr : rd l 1 = x) (k : Nat) : lots_fits.l0 (k + 1) l n 1 L3 [0, t] 0 = lots_fits.l0 k l n 2 L3 [0, t] 0 := by
  have c1 : ¬ x < 0 := by omega
  have c2 : ¬ x > 1000 := by omega
  simp only [lots_fits.l0, hr, Q1, w2]
  rw [if_pos hn, if_pos (by omega), if_pos (by omega), if_neg c1, if_pos (by simp), if_neg c2]
theorem fits_step2 (x : Int) (l : List Int) (hx : 0 ≤ x) (hx1 : x ≤ 1000) (n t : Int) (hn : 2 < n) (hl : 2 < l.length) (hr : rd l 2 = x) (k : Nat) : lots_fits.l0 (k + 1) l n 2 L3 [0, t] 0 = lots_fits.l0 k l n 3 L3 [0, t] 0 := by
  have c1 : ¬ x < 0 := by omega
  have c2 : ¬ x > 1000 := by omega
  simp only [lots_fits.l0, hr, Q2, w3]
  rw [if_pos hn, if_pos (by omega), if_pos (by omega), if_neg c1, if_pos (by simp), if_neg c2]
theorem fits_j (l : List Int) (t : Int) (ht : 0 ≤ t) (ht1 : t < 9000) (hl : l.length = 3) (k : Nat) : lots_fits.f (k + 1) L3 [0, t] 0 l = lots_fits.l0 k l 3 0 L3 [0, t] 0 := by
  have e : ((l.length : Int) != (L3.length : Int)) = false := by rw [hl]; rfl
  have e2 : (l.length : Int) = 3 := by rw [hl]; rfl
  unfold lots_fits.f
  rw [valid3 t ht ht1]
  simp only [Option.bind_some, Option.isNone_none]
  rw [if_pos trivial, e]
  simp only [lots_fits.j0, Bool.false_eq_true, if_false, e2]
theorem fits_short (x y t : Int) (ht : 0 ≤ t) (ht1 : t < 9000) (k : Nat) : lots_fits.f (k + 1) L3 [0, t] 0 [x, y] = some false := by
  unfold lots_fits.f
  rw [valid3 t ht ht1]
  simp only [Option.bind_some, Option.isNone_none]
  rw [if_pos trivial, show (([x, y].length : Int) != (L3.length : Int)) = true from rfl]
  simp only [lots_fits.j0, if_true]
theorem fits3 (x y z t : Int) (hx : 0 ≤ x) (hx1 : x ≤ 1000) (hy : 0 ≤ y) (hy1 : y ≤ 1000) (hz : 0 ≤ z) (hz1 : z ≤ 1000) (ht : 0 ≤ t) (ht1 : t < 9000) (k : Nat) (hk : 8 < k) : lots_fits.f k L3 [0, t] 0 [x, y, z] = some true := by
  obtain ⟨k, rfl⟩ : ∃ m, k = m + 1 := ⟨k - 1, by omega⟩
  rw [fits_j _ t ht ht1 rfl]
  obtain ⟨k, rfl⟩ : ∃ m, k = m + 1 := ⟨k - 1, by omega⟩
  rw [fits_step0 x _ hx hx1 3 t (by omega) (by simp) rfl]
  obtain ⟨k, rfl⟩ : ∃ m, k = m + 1 := ⟨k - 1, by omega⟩
  rw [fits_step1 y _ hy hy1 3 t (by omega) (by simp) rfl]
  obtain ⟨k, rfl⟩ : ∃ m, k = m + 1 := ⟨k - 1, by omega⟩
  rw [fits_step2 z _ hz hz1 3 t (by omega) (by simp) rfl]
  obtain ⟨k, rfl⟩ : ∃ m, k = m + 1 := ⟨k - 1, by omega⟩
  simp [lots_fits.l0]
theorem fits_over (x y t : Int) (hx : 0 ≤ x) (hx1 : x ≤ 1000) (hy : 0 ≤ y) (hy1 : y ≤ 1000) (ht : 0 ≤ t) (ht1 : t < 9000) (k : Nat) (hk : 8 < k) : lots_fits.f k L3 [0, t] 0 [x, y, 1001] = some false := by
  obtain ⟨k, rfl⟩ : ∃ m, k = m + 1 := ⟨k - 1, by omega⟩
  rw [fits_j _ t ht ht1 rfl]
  obtain ⟨k, rfl⟩ : ∃ m, k = m + 1 := ⟨k - 1, by omega⟩
  rw [fits_step0 x _ hx hx1 3 t (by omega) (by simp) rfl]
  obtain ⟨k, rfl⟩ : ∃ m, k = m + 1 := ⟨k - 1, by omega⟩
  rw [fits_step1 y _ hy hy1 3 t (by omega) (by simp) rfl]
  obtain ⟨k, rfl⟩ : ∃ m, k = m + 1 := ⟨k - 1, by omega⟩
  simp [lots_fits.l0, q2, Q2]
theorem fits_below (y z t : Int) (ht : 0 ≤ t) (ht1 : t < 9000) (k : Nat) (hk : 8 < k) : lots_fits.f k L3 [0, t] 0 [(-1), y, z] = some false := by
  obtain ⟨k, rfl⟩ : ∃ m, k = m + 1 := ⟨k - 1, by omega⟩
  rw [fits_j _ t ht ht1 rfl]
  obtain ⟨k, rfl⟩ : ∃ m, k = m + 1 := ⟨k - 1, by omega⟩
  simp [lots_fits.l0, q0]
def capped (s t : Int) : Int := if t > 0 then mn s t else s
theorem worth3 (x y z t : Int) (hx : 0 ≤ x) (hx1 : x ≤ 1000) (hy : 0 ≤ y) (hy1 : y ≤ 1000) (hz : 0 ≤ z) (hz1 : z ≤ 1000) (ht : 0 ≤ t) (ht1 : t < 9000) (k : Nat) (hk : 12 < k) : lots_worth.f k L3 [0, t] 0 [x, y, z] = some (3 * x + capped (5 * y + 7 * z) t) := by
  have e1 : wrap64 (x * 3) = 3 * x := by unfold wrap64; omega
  have e2 : wrap64 (y * 5) = 5 * y := by unfold wrap64; omega
  have e3 : wrap64 (z * 7) = 7 * z := by unfold wrap64; omega
  have e4 : wrap64 (0 + 3 * x) = 3 * x := by unfold wrap64; omega
  have e5 : wrap64 (0 + 5 * y) = 5 * y := by unfold wrap64; omega
  have e6 : wrap64 (5 * y + 7 * z) = 5 * y + 7 * z := by unfold wrap64; omega
  have f4 : wrap64 (3 * x) = 3 * x := by unfold wrap64; omega
  have f5 : wrap64 (5 * y) = 5 * y := by unfold wrap64; omega
  unfold lots_worth.f
  rw [if_pos (by simp), if_pos (by simp)]
  show lots_worth.l0 k [0, 0] [x, y, z] 3 0 L3 [0, t] 0 = _
  obtain ⟨k, rfl⟩ : ∃ m, k = m + 1 := ⟨k - 1, by omega⟩
  have h1 : lots_worth.l0 (k + 1) [0, 0] [x, y, z] 3 0 L3 [0, t] 0 = lots_worth.l0 k [3 * x, 0] [x, y, z] 3 1 L3 [0, t] 0 := by
    simp [lots_worth.l0, Q0, q0, p0, e1, e4, f4, w1, v1]
  rw [h1]
  clear h1
  obtain ⟨k, rfl⟩ : ∃ m, k = m + 1 := ⟨k - 1, by omega⟩
  have h1 : lots_worth.l0 (k + 1) [3 * x, 0] [x, y, z] 3 1 L3 [0, t] 0 = lots_worth.l0 k [3 * x, 5 * y] [x, y, z] 3 2 L3 [0, t] 0 := by
    simp [lots_worth.l0, Q1, q1, p1, e2, e5, f5, w2, v2]
  rw [h1]
  clear h1
  obtain ⟨k, rfl⟩ : ∃ m, k = m + 1 := ⟨k - 1, by omega⟩
  have h1 : lots_worth.l0 (k + 1) [3 * x, 5 * y] [x, y, z] 3 2 L3 [0, t] 0 = lots_worth.l0 k [3 * x, 5 * y + 7 * z] [x, y, z] 3 3 L3 [0, t] 0 := by
    simp [lots_worth.l0, Q2, q2, p1, e3, e6, w3, v3]
  rw [h1]
  clear h1
  obtain ⟨k, rfl⟩ : ∃ m, k = m + 1 := ⟨k - 1, by omega⟩
  have h1 : lots_worth.l0 (k + 1) [3 * x, 5 * y + 7 * z] [x, y, z] 3 3 L3 [0, t] 0 = lots_worth.l1 k 0 [3 * x, 5 * y + 7 * z] 2 0 L3 [0, t] 0 := by
    simp [lots_worth.l0]
  rw [h1]
  clear h1
  obtain ⟨k, rfl⟩ : ∃ m, k = m + 1 := ⟨k - 1, by omega⟩
  have h1 : lots_worth.l1 (k + 1) 0 [3 * x, 5 * y + 7 * z] 2 0 L3 [0, t] 0 = lots_worth.l1 k (3 * x) [3 * x, 5 * y + 7 * z] 2 1 L3 [0, t] 0 := by
    simp [lots_worth.l1, p0, e4, f4, w1, v1]
  rw [h1]
  clear h1
  obtain ⟨k, rfl⟩ : ∃ m, k = m + 1 := ⟨k - 1, by omega⟩
  have hc : 0 ≤ capped (5 * y + 7 * z) t ∧ capped (5 * y + 7 * z) t ≤ 20000 := by unfold capped mn; split <;> (try split) <;> omega
  have e7 : wrap64 (3 * x + capped (5 * y + 7 * z) t) = 3 * x + capped (5 * y + 7 * z) t := w64s _ (by omega) (by omega)
  have h1 : lots_worth.l1 (k + 1) (3 * x) [3 * x, 5 * y + 7 * z] 2 1 L3 [0, t] 0 = lots_worth.l1 k (3 * x + capped (5 * y + 7 * z) t) [3 * x, 5 * y + 7 * z] 2 2 L3 [0, t] 0 := by
    rw [← e7]
    unfold capped
    by_cases h : t > 0
    · rw [if_pos h]
      simp [lots_worth.l1, p1, w2, v2, h]
    · rw [if_neg h]
      simp [lots_worth.l1, p1, w2, v2, h]
  rw [h1]
  clear h1
  obtain ⟨k, rfl⟩ : ∃ m, k = m + 1 := ⟨k - 1, by omega⟩
  simp [lots_worth.l1]
theorem cost3 (x y z t : Int) (hx : 0 ≤ x) (hx1 : x ≤ 1000) (hy : 0 ≤ y) (hy1 : y ≤ 1000) (hz : 0 ≤ z) (hz1 : z ≤ 1000) (ht : 0 ≤ t) (ht1 : t < 9000) (k : Nat) (hk : 12 < k) : lots_Cost.f k L3 [0, t] 0 [x, y, z] = some (x + 2 * y, true) := by
  have e1 : wrap64 (x * 1) = x := by unfold wrap64; omega
  have f1 : wrap64 x = x := by unfold wrap64; omega
  have e2 : wrap64 (y * 2) = 2 * y := by unfold wrap64; omega
  have e3 : wrap64 (z * 0) = 0 := by unfold wrap64; omega
  have f3 : wrap64 0 = 0 := by unfold wrap64; omega
  have e4 : wrap64 (0 + x) = x := by unfold wrap64; omega
  have e5 : wrap64 (x + 2 * y) = x + 2 * y := by unfold wrap64; omega
  have e6 : wrap64 (x + 2 * y + 0) = x + 2 * y := by unfold wrap64; omega
  unfold lots_Cost.f
  rw [fits3 x y z t hx hx1 hy hy1 hz hz1 ht ht1 k (by omega), Option.bind_some, if_pos rfl]
  show lots_Cost.l0 k 0 [x, y, z] 3 0 L3 [0, t] 0 = _
  obtain ⟨k, rfl⟩ : ∃ m, k = m + 1 := ⟨k - 1, by omega⟩
  have h1 : lots_Cost.l0 (k + 1) 0 [x, y, z] 3 0 L3 [0, t] 0 = lots_Cost.l0 k x [x, y, z] 3 1 L3 [0, t] 0 := by
    simp [lots_Cost.l0, Q0, q0, e1, f1, e4, w1, v1]
  rw [h1]
  clear h1
  obtain ⟨k, rfl⟩ : ∃ m, k = m + 1 := ⟨k - 1, by omega⟩
  have h1 : lots_Cost.l0 (k + 1) x [x, y, z] 3 1 L3 [0, t] 0 = lots_Cost.l0 k (x + 2 * y) [x, y, z] 3 2 L3 [0, t] 0 := by
    simp [lots_Cost.l0, Q1, q1, e2, e5, w2, v2]
  rw [h1]
  clear h1
  obtain ⟨k, rfl⟩ : ∃ m, k = m + 1 := ⟨k - 1, by omega⟩
  have h1 : lots_Cost.l0 (k + 1) (x + 2 * y) [x, y, z] 3 2 L3 [0, t] 0 = lots_Cost.l0 k (x + 2 * y) [x, y, z] 3 3 L3 [0, t] 0 := by
    simp [lots_Cost.l0, Q2, q2, e3, f3, e5, e6, w3, v3]
  rw [h1]
  clear h1
  obtain ⟨k, rfl⟩ : ∃ m, k = m + 1 := ⟨k - 1, by omega⟩
  simp [lots_Cost.l0]
end Go.Proofs.YtlalofmilhakjaaDoor.PrLotsCaps
namespace Go.Proofs.YtlalofmilhakjaaDoor.Pr
open Go.RowKit Go.Proofs.YtlalofmilhakjaaDoor.ELotsCaps Go.Proofs.YtlalofmilhakjaaDoorW.PrintWords Go.Proofs.YtlalofmilhakjaaDoorW.PrintLast Go.Proofs.YtlalofmilhakjaaDoorW.PrintMore Go.Proofs.YtlalofmilhakjaaDoorW.PrintOpen Go.Proofs.YtlalofmilhakjaaDoor.PrLotsCaps
theorem LotsCaps : pledgelaw18_LotsCaps.Pure := by
  intro a0 a1 a2 a3 _ _ _ _
  obtain ⟨k0, hk0⟩ : ∃ k : Nat, 10000 < k := ⟨10001, by omega⟩
  refine ⟨k0 + 1, ?_⟩
  obtain ⟨k, hk⟩ : ∃ k, k = k0 + 1 := ⟨_, rfl⟩
  have j0 : pledgelaw18_LotsCaps.j0 k true = some true := by rw [hk]; simp [pledgelaw18_LotsCaps.j0]
  have j1 : pledgelaw18_LotsCaps.j1 k true = some true := by rw [hk]; simp [pledgelaw18_LotsCaps.j1]
  have sh : ∀ x y t : Int, 0 ≤ t → t < 9000 → lots_fits.f k L3 [0, t] 0 [x, y] = some false := fun x y t h h' => by rw [hk]; exact fits_short x y t h h' k0
  rw [← hk]
  have hk1 : 10000 < k := by omega
  clear hk hk0
  unfold pledgelaw18_LotsCaps.f
  rw [first_eq k (by omega), Option.bind_some, if_pos rfl, number_eq a0 1001 (by omega) (by omega), Option.bind_some, number_eq a1 1001 (by omega) (by omega), Option.bind_some, number_eq a2 1001 (by omega) (by omega), Option.bind_some, number_eq a3 9000 (by omega) (by omega), Option.bind_some]
  have hx := Int.emod_nonneg a0 (show (1001 : Int) ≠ 0 by omega)
  have hx1 := Int.emod_lt_of_pos a0 (show (0 : Int) < 1001 by omega)
  have hy := Int.emod_nonneg a1 (show (1001 : Int) ≠ 0 by omega)
  have hy1 := Int.emod_lt_of_pos a1 (show (0 : Int) < 1001 by omega)
  have hz := Int.emod_nonneg a2 (show (1001 : Int) ≠ 0 by omega)
  have hz1 := Int.emod_lt_of_pos a2 (show (0 : Int) < 1001 by omega)
  have ht := Int.emod_nonneg a3 (show (9000 : Int) ≠ 0 by omega)
  have ht1 := Int.emod_lt_of_pos a3 (show (0 : Int) < 9000 by omega)
  generalize a0 % 1001 = x at hx hx1 ⊢
  generalize a1 % 1001 = y at hy hy1 ⊢
  generalize a2 % 1001 = z at hz hz1 ⊢
  generalize a3 % 9000 = t at ht ht1 ⊢
  have e1 : wrap64 (3 * x) = 3 * x := w64s _ (by omega) (by omega)
  have e2 : wrap64 (5 * y) = 5 * y := w64s _ (by omega) (by omega)
  have e3 : wrap64 (7 * z) = 7 * z := w64s _ (by omega) (by omega)
  have e4 : wrap64 (5 * y + 7 * z) = 5 * y + 7 * z := w64s _ (by omega) (by omega)
  have e5 : wrap64 (2 * y) = 2 * y := w64s _ (by omega) (by omega)
  have e6 : wrap64 (x + 2 * y) = x + 2 * y := w64s _ (by omega) (by omega)
  have W1 : lots_Worth.f k L3 [0, t] 0 [x, y, z] = some (3 * x + capped (5 * y + 7 * z) t, true) := by
    unfold lots_Worth.f
    rw [fits3 x y z t hx (by omega) hy (by omega) hz (by omega) ht ht1 k (by omega), Option.bind_some, if_pos rfl, worth3 x y z t hx (by omega) hy (by omega) hz (by omega) ht ht1 k (by omega)]
    rfl
  have W2 : lots_Worth.f k L3 [0, t] 0 [x, y] = some (0, false) := by
    unfold lots_Worth.f
    rw [sh x y t ht ht1]
    rfl
  have W3 : lots_Worth.f k L3 [0, t] 0 [x, y, 1001] = some (0, false) := by
    unfold lots_Worth.f
    rw [fits_over x y t hx (by omega) hy (by omega) ht ht1 k (by omega)]
    rfl
  have C1 := cost3 x y z t hx (by omega) hy (by omega) hz (by omega) ht ht1 k (by omega)
  have C2 : lots_Cost.f k L3 [0, t] 0 [(-1), y, z] = some (0, false) := by
    unfold lots_Cost.f
    rw [fits_below y z t ht ht1 k (by omega)]
    rfl
  simp only [Option.bind_some]
  rw [W1, Option.bind_some, C1, Option.bind_some]
  have hc : 0 ≤ capped (5 * y + 7 * z) t ∧ capped (5 * y + 7 * z) t ≤ 20000 := by unfold capped mn; split <;> (try split) <;> omega
  have e7 : wrap64 (3 * x + capped (5 * y + 7 * z) t) = 3 * x + capped (5 * y + 7 * z) t := w64s _ (by omega) (by omega)
  by_cases h : t > 0
  · have hcp : capped (5 * y + 7 * z) t = mn (5 * y + 7 * z) t := if_pos h
    rw [hcp] at e7 ⊢
    rw [if_pos h, W2, Option.bind_some, W3, Option.bind_some, C2, Option.bind_some]
    simp [e1, e2, e3, e4, e5, e6, e7, j0]
  · have hcp : capped (5 * y + 7 * z) t = 5 * y + 7 * z := if_neg h
    rw [hcp] at e7 ⊢
    rw [if_neg h, W2, Option.bind_some, W3, Option.bind_some, C2, Option.bind_some]
    simp [e1, e2, e3, e4, e5, e6, e7, j1]
end Go.Proofs.YtlalofmilhakjaaDoor.Pr
