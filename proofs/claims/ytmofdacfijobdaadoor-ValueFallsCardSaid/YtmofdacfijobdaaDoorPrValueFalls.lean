/- A greater cut is worth no more, what does not count nothing, more of it no less; a step is never more than the cut leaves: the pure statement of ValueFalls, for all numbers. Conditions: none beyond the statement's own. -/
import Derived.Test.YtmofdacfijobdaaDoorEValueFallsx
import Derived.Test.YtmofdacfijobdaaDoorOpen
namespace Go.Proofs.YtmofdacfijobdaaDoor.PrValueFalls
open Go.RowKit Go.Proofs.YtmofdacfijobdaaDoor.EValueFalls Go.Proofs.YtmofdacfijobdaaDoorW.PrintWords Go.Proofs.YtmofdacfijobdaaDoorW.PrintLast Go.Proofs.YtmofdacfijobdaaDoorW.PrintMore Go.Proofs.YtmofdacfijobdaaDoorW.PrintOpen
set_option linter.unusedSimpArgs false
set_option linter.unusedVariables false
theorem w64 (x : Int) (h1 : -9223372036854775808 ≤ x) (h2 : x ≤ 9223372036854775807) : wrap64 x = x := by unfold wrap64; omega
theorem w64s (x : Int) (h1 : -1000000000 ≤ x) (h2 : x ≤ 1000000000) : wrap64 x = x := by unfold wrap64; omega
theorem wu64 (n : Int) : IntKind.u64.wrap n = n % 18446744073709551616 := by simp [IntKind.wrap, IntKind.bits, IntKind.signed]
theorem rd_nat (l : List Int) (i : Nat) : rd l (i : Int) = l.getD i 0 := by unfold rd; rw [Int.toNat_natCast]
theorem rd_mem (l : List Int) (i : Nat) (h : i < l.length) : rd l (i : Int) ∈ l := by
  rw [rd_nat, List.getD_eq_getElem?_getD, List.getElem?_eq_getElem h]; exact List.getElem_mem h
theorem take_snoc_sum (l : List Int) (i : Nat) (h : i < l.length) : (l.take (i + 1)).sum = (l.take i).sum + rd l (i : Int) := by
  rw [List.take_succ_eq_append_getElem h, List.sum_append, rd_nat, List.getD_eq_getElem?_getD, List.getElem?_eq_getElem h]; simp
theorem and32 (x : Int) (h0 : 0 ≤ x) (h1 : x < 18446744073709551616) : Go.bits .and .u64 x 4294967295 = x % 4294967296 := by
  have := bits_mask .u64 64 (by decide) (fun n a b => by rw [wu64]; omega) 32 (by decide) x h0 (by omega)
  simpa using this
theorem pb (x y : Int) (hx : 0 ≤ x) (hx1 : x < 4294967296) (hy : 0 ≤ y) (hy1 : y < 4294967296) : 0 ≤ x * y ∧ x * y ≤ 18446744065119617025 := by
  refine ⟨Int.mul_nonneg hx hy, ?_⟩
  have := Int.mul_le_mul (show x ≤ 4294967295 by omega) (show y ≤ 4294967295 by omega) hy (by omega)
  omega
theorem split32 (a b : Int) : a * b = (a / 4294967296) * (b / 4294967296) * 18446744073709551616 + ((a / 4294967296) * (b % 4294967296) + (a % 4294967296) * (b / 4294967296)) * 4294967296 + (a % 4294967296) * (b % 4294967296) := by
  have h1 : a = (a / 4294967296) * 4294967296 + a % 4294967296 := by omega
  have h2 : b = (b / 4294967296) * 4294967296 + b % 4294967296 := by omega
  generalize a / 4294967296 = a1 at *
  generalize a % 4294967296 = a0 at *
  generalize b / 4294967296 = b1 at *
  generalize b % 4294967296 = b0 at *
  subst h1 h2
  grind
theorem Wide_eq (a b : Int) (ha0 : 0 ≤ a) (ha1 : a < 18446744073709551616) (hb0 : 0 ≤ b) (hb1 : b < 18446744073709551616) :
    fix_Wide.f a b = some (a * b / 18446744073709551616, a * b % 18446744073709551616) := by
  unfold fix_Wide.f
  simp only [wu64, and32 a ha0 ha1, and32 b hb0 hb1]
  have e := split32 a b
  obtain ⟨q1, q2⟩ := pb (a / 4294967296) (b / 4294967296) (by omega) (by omega) (by omega) (by omega)
  obtain ⟨q3, q4⟩ := pb (a / 4294967296) (b % 4294967296) (by omega) (by omega) (by omega) (by omega)
  obtain ⟨q5, q6⟩ := pb (a % 4294967296) (b / 4294967296) (by omega) (by omega) (by omega) (by omega)
  obtain ⟨q7, q8⟩ := pb (a % 4294967296) (b % 4294967296) (by omega) (by omega) (by omega) (by omega)
  generalize a / 4294967296 * (b / 4294967296) = p11 at *
  generalize a / 4294967296 * (b % 4294967296) = p10 at *
  generalize a % 4294967296 * (b / 4294967296) = p01 at *
  generalize a % 4294967296 * (b % 4294967296) = p00 at *
  generalize a * b = p at *
  rw [and32 _ (by omega) (by omega)]
  congr 2
  omega
def lenTab : ByteArray := ⟨#[0, 1, 2, 2, 3, 3, 3, 3, 4, 4, 4, 4, 4, 4, 4, 4, 5, 5, 5, 5, 5, 5, 5, 5, 5, 5, 5, 5, 5, 5, 5, 5, 6, 6, 6, 6, 6, 6, 6, 6, 6, 6, 6, 6, 6, 6, 6, 6, 6, 6, 6, 6, 6, 6, 6, 6, 6, 6, 6, 6, 6, 6, 6, 6, 7, 7, 7, 7, 7, 7, 7, 7, 7, 7, 7, 7, 7, 7, 7, 7, 7, 7, 7, 7, 7, 7, 7, 7, 7, 7, 7, 7, 7, 7, 7, 7, 7, 7, 7, 7, 7, 7, 7, 7, 7, 7, 7, 7, 7, 7, 7, 7, 7, 7, 7, 7, 7, 7, 7, 7, 7, 7, 7, 7, 7, 7, 7, 7, 8, 8, 8, 8, 8, 8, 8, 8, 8, 8, 8, 8, 8, 8, 8, 8, 8, 8, 8, 8, 8, 8, 8, 8, 8, 8, 8, 8, 8, 8, 8, 8, 8, 8, 8, 8, 8, 8, 8, 8, 8, 8, 8, 8, 8, 8, 8, 8, 8, 8, 8, 8, 8, 8, 8, 8, 8, 8, 8, 8, 8, 8, 8, 8, 8, 8, 8, 8, 8, 8, 8, 8, 8, 8, 8, 8, 8, 8, 8, 8, 8, 8, 8, 8, 8, 8, 8, 8, 8, 8, 8, 8, 8, 8, 8, 8, 8, 8, 8, 8, 8, 8, 8, 8, 8, 8, 8, 8, 8, 8, 8, 8, 8, 8, 8, 8, 8, 8, 8, 8, 8, 8, 8, 8, 8, 8, 8, 8]⟩
set_option maxRecDepth 100000 in
theorem lenTab_dec : ∀ j : Fin 256, 0 < (j : Nat) → (bt lenTab (j : Nat) = 1 ∧ 1 ≤ (j : Nat) ∧ (j : Nat) ≤ 1) ∨ (bt lenTab (j : Nat) = 2 ∧ 2 ≤ (j : Nat) ∧ (j : Nat) ≤ 3) ∨ (bt lenTab (j : Nat) = 3 ∧ 4 ≤ (j : Nat) ∧ (j : Nat) ≤ 7) ∨ (bt lenTab (j : Nat) = 4 ∧ 8 ≤ (j : Nat) ∧ (j : Nat) ≤ 15) ∨ (bt lenTab (j : Nat) = 5 ∧ 16 ≤ (j : Nat) ∧ (j : Nat) ≤ 31) ∨ (bt lenTab (j : Nat) = 6 ∧ 32 ≤ (j : Nat) ∧ (j : Nat) ≤ 63) ∨ (bt lenTab (j : Nat) = 7 ∧ 64 ≤ (j : Nat) ∧ (j : Nat) ≤ 127) ∨ (bt lenTab (j : Nat) = 8 ∧ 128 ≤ (j : Nat) ∧ (j : Nat) ≤ 255) := by decide
theorem lenTab_spec (i : Int) (h0 : 0 < i) (h1 : i < 256) : (bt lenTab i = 1 ∧ 1 ≤ i ∧ i ≤ 1) ∨ (bt lenTab i = 2 ∧ 2 ≤ i ∧ i ≤ 3) ∨ (bt lenTab i = 3 ∧ 4 ≤ i ∧ i ≤ 7) ∨ (bt lenTab i = 4 ∧ 8 ≤ i ∧ i ≤ 15) ∨ (bt lenTab i = 5 ∧ 16 ≤ i ∧ i ≤ 31) ∨ (bt lenTab i = 6 ∧ 32 ≤ i ∧ i ≤ 63) ∨ (bt lenTab i = 7 ∧ 64 ≤ i ∧ i ≤ 127) ∨ (bt lenTab i = 8 ∧ 128 ≤ i ∧ i ≤ 255) := by
  obtain ⟨n, rfl⟩ := Int.eq_ofNat_of_zero_le (show 0 ≤ i by omega)
  have := lenTab_dec ⟨n, by omega⟩ (by show 0 < n; omega)
  simp only at this
  omega
theorem wadd (n a t : Int) (n0 : 0 ≤ n) (n1 : n ≤ 32) (a0 : 0 ≤ a) (a1 : a ≤ 24) (t0 : 1 ≤ t) (t1 : t ≤ 8) : wrap64 ((wrap64 (n + a)) + (wrap64 t)) = n + (a + t) := by
  rw [w64 (n + a) (by omega) (by omega), w64 t (by omega) (by omega), w64 _ (by omega) (by omega)]; omega
theorem Len_j0 (k : Nat) (x n : Int) (hx : 0 < x) (hx1 : x < 4294967296) (hn0 : 0 ≤ n) (hn1 : n ≤ 32) :
    ∃ L : Nat, bits_Len64.j0 (k + 1) x n = some (n + L) ∧ 1 ≤ L ∧ L ≤ 32 ∧ (2 : Int) ^ (L - 1) ≤ x ∧ x < (2 : Int) ^ L := by
  have key : ∀ (i a : Int) (b : Nat), 0 < i → i < 256 → a = (b : Int) → b ≤ 24 → x / (2 : Int) ^ b = i →
      ∃ L : Nat, (some (wrap64 ((wrap64 (n + a)) + (wrap64 (bt lenTab i)))) : Option Int) = some (n + L) ∧ 1 ≤ L ∧ L ≤ b + 8 ∧ (2 : Int) ^ (L - 1) ≤ x ∧ x < (2 : Int) ^ L := by
    intro i a b h0 h1 ha hb hi
    have hp : 0 < (2 : Int) ^ b := Int.pow_pos (by decide)
    have e1 : i * (2 : Int) ^ b ≤ x := by rw [← hi]; exact Int.ediv_mul_le _ (by omega)
    have e2 : x < (i + 1) * (2 : Int) ^ b := by rw [← hi]; exact Int.lt_ediv_add_one_mul_self _ hp
    have sp := lenTab_spec i h0 h1
    generalize bt lenTab i = tv at sp ⊢
    have fin : ∀ t : Nat, tv = t → 1 ≤ t → t ≤ 8 → (2 : Int) ^ (t - 1) ≤ i → i + 1 ≤ (2 : Int) ^ t →
        ∃ L : Nat, (some (wrap64 ((wrap64 (n + a)) + (wrap64 tv))) : Option Int) = some (n + L) ∧ 1 ≤ L ∧ L ≤ b + 8 ∧ (2 : Int) ^ (L - 1) ≤ x ∧ x < (2 : Int) ^ L := by
      clear sp
      intro t ht t1 t8 g0 g1
      refine ⟨b + t, ?_, by omega, by omega, ?_, ?_⟩
      · subst ht
        rw [wadd n a t hn0 hn1 (by rw [ha]; exact Int.natCast_nonneg _) (by rw [ha]; exact_mod_cast hb) (by exact_mod_cast t1) (by exact_mod_cast t8), ha]
        rfl
      · rw [show b + t - 1 = (t - 1) + b by omega, Int.pow_add]
        exact Int.le_trans (Int.mul_le_mul_of_nonneg_right g0 (by omega)) e1
      · rw [show b + t = t + b by omega, Int.pow_add]
        exact Int.lt_of_lt_of_le e2 (Int.mul_le_mul_of_nonneg_right g1 (by omega))
    rcases sp with h | h | h | h | h | h | h | h
    · exact fin 1 h.1 (by omega) (by omega) (by simp; omega) (by simp; omega)
    · exact fin 2 h.1 (by omega) (by omega) (by simp; omega) (by simp; omega)
    · exact fin 3 h.1 (by omega) (by omega) (by simp; omega) (by simp; omega)
    · exact fin 4 h.1 (by omega) (by omega) (by simp; omega) (by simp; omega)
    · exact fin 5 h.1 (by omega) (by omega) (by simp; omega) (by simp; omega)
    · exact fin 6 h.1 (by omega) (by omega) (by simp; omega) (by simp; omega)
    · exact fin 7 h.1 (by omega) (by omega) (by simp; omega) (by simp; omega)
    · exact fin 8 h.1 (by omega) (by omega) (by simp; omega) (by simp; omega)
  rw [bits_Len64.j0]
  by_cases c1 : x ≥ 65536
  · rw [if_pos c1]
    by_cases c2 : x / 65536 ≥ 256
    · rw [if_pos c2, if_pos (by omega), if_pos (by omega)]
      obtain ⟨L, e, l1, l2, l3, l4⟩ := key (x / 65536 / 256 % 256) 24 24 (by omega) (by omega) rfl (by omega) (by omega)
      refine ⟨L, ?_, l1, by omega, l3, l4⟩
      rw [← e]
      have : wrap64 (wrap64 (n + 16) + 8) = wrap64 (n + 24) := by unfold wrap64; omega
      rw [this]
      rfl
    · rw [if_neg c2, if_pos (by omega), if_pos (by omega)]
      obtain ⟨L, e, l1, l2, l3, l4⟩ := key (x / 65536 % 256) 16 16 (by omega) (by omega) rfl (by omega) (by omega)
      exact ⟨L, e, l1, by omega, l3, l4⟩
  · rw [if_neg c1]
    by_cases c2 : x ≥ 256
    · rw [if_pos c2, if_pos (by omega), if_pos (by omega)]
      obtain ⟨L, e, l1, l2, l3, l4⟩ := key (x / 256 % 256) 8 8 (by omega) (by omega) rfl (by omega) (by omega)
      exact ⟨L, e, l1, by omega, l3, l4⟩
    · rw [if_neg c2, if_pos (by omega), if_pos (by omega)]
      obtain ⟨L, e, l1, l2, l3, l4⟩ := key (x % 256) 0 0 (by omega) (by omega) rfl (by omega) (by omega)
      refine ⟨L, ?_, l1, by omega, l3, l4⟩
      rw [← e]
      have : n = wrap64 (n + 0) := by unfold wrap64; omega
      rw [← this]
      rfl
theorem Len_eq (k : Nat) (x : Int) (hx : 0 < x) (hx1 : x < 18446744073709551616) :
    ∃ L : Nat, bits_Len64.f (k + 1) x = some (L : Int) ∧ 1 ≤ L ∧ L ≤ 64 ∧ (2 : Int) ^ (L - 1) ≤ x ∧ x < (2 : Int) ^ L := by
  unfold bits_Len64.f
  by_cases c : x ≥ 4294967296
  · rw [if_pos c]
    obtain ⟨L, e, l1, l2, l3, l4⟩ := Len_j0 k (x / 4294967296) 32 (by omega) (by omega) (by omega) (by omega)
    refine ⟨32 + L, by rw [e]; simp, by omega, by omega, ?_, ?_⟩
    · rw [show 32 + L - 1 = (L - 1) + 32 by omega, Int.pow_add]
      have : (2 : Int) ^ (L - 1) * 4294967296 ≤ x / 4294967296 * 4294967296 := Int.mul_le_mul_of_nonneg_right l3 (by omega)
      have h32 : (2 : Int) ^ 32 = 4294967296 := by decide
      rw [h32]; omega
    · rw [show 32 + L = L + 32 by omega, Int.pow_add]
      have : (x / 4294967296 + 1) * 4294967296 ≤ (2 : Int) ^ L * 4294967296 := Int.mul_le_mul_of_nonneg_right (by omega) (by omega)
      have h32 : (2 : Int) ^ 32 = 4294967296 := by decide
      rw [h32]; omega
  · rw [if_neg c]
    obtain ⟨L, e, l1, l2, l3, l4⟩ := Len_j0 k x 0 hx (by omega) (by omega) (by omega)
    exact ⟨L, by rw [e]; simp, l1, by omega, l3, l4⟩
/-- The digit's loops: what a guess q of the quotient of n = U * 2^32 + u by y = a * 2^32 + b tells. -/
structure Guess (U u a b q r : Int) : Prop where
  e : r = U - q * a
  r0 : 0 ≤ r
  r1 : r < 4294967296
  lo : (U * 4294967296 + u) / (a * 4294967296 + b) ≤ q
  hi : q ≤ 4294967297
structure Div32 (U u a b : Int) : Prop where
  a0 : 2147483648 ≤ a
  a1 : a < 4294967296
  b0 : 0 ≤ b
  b1 : b < 4294967296
  u0 : 0 ≤ u
  u1 : u < 4294967296
  U0 : 0 ≤ U
  U1 : U < a * 4294967296 + b
theorem Guess.key {U u a b q r : Int} (g : Guess U u a b q r) : U * 4294967296 + u - q * (a * 4294967296 + b) = r * 4294967296 + u - q * b := by
  rw [g.e]; grind
/-- A guess that passes the test is the digit. -/
theorem Guess.done {U u a b q r : Int} (d : Div32 U u a b) (g : Guess U u a b q r) (h : q * b ≤ r * 4294967296 + u) : q = (U * 4294967296 + u) / (a * 4294967296 + b) := by
  have hk := g.key
  have hy : 0 < a * 4294967296 + b := by have := d.a0; have := d.b0; omega
  have : q ≤ (U * 4294967296 + u) / (a * 4294967296 + b) := (Int.le_ediv_iff_mul_le hy).2 (by omega)
  exact Int.le_antisymm this g.lo
/-- One that fails it is too great. -/
theorem Guess.fails {U u a b q r : Int} (d : Div32 U u a b) (g : Guess U u a b q r) (h : 4294967296 ≤ q ∨ r * 4294967296 + u < q * b) : (U * 4294967296 + u) / (a * 4294967296 + b) ≤ q - 1 := by
  have hk := g.key
  have hy : 0 < a * 4294967296 + b := by have := d.a0; have := d.b0; omega
  have : (U * 4294967296 + u) / (a * 4294967296 + b) < q := by
    rcases h with h | h
    · have h1 : (U * 4294967296 + u) / (a * 4294967296 + b) < 4294967296 := (Int.ediv_lt_iff_lt_mul hy).2 (by have := d.U1; have := d.u1; omega)
      omega
    · exact (Int.ediv_lt_iff_lt_mul hy).2 (by omega)
  omega
/-- The last guess, where what is left would be beyond a digit. -/
theorem Guess.over {U u a b q r : Int} (d : Div32 U u a b) (g : Guess U u a b q r) (h : 4294967296 ≤ q ∨ r * 4294967296 + u < q * b) (hr : 4294967296 ≤ r + a) :
    q - 1 = (U * 4294967296 + u) / (a * 4294967296 + b) := by
  have h1 := g.fails d h
  have hk := g.key
  have hy : 0 < a * 4294967296 + b := by have := d.a0; have := d.b0; omega
  have hb : (q - 1) * b ≤ 18446744073709551616 - 4294967296 := by
    have h2 : q - 1 ≤ 4294967296 := by have := g.hi; omega
    have h3 : (q - 1) * b ≤ 4294967296 * b := Int.mul_le_mul_of_nonneg_right h2 d.b0
    have := d.b1; omega
  have e : (q - 1) * (a * 4294967296 + b) = q * (a * 4294967296 + b) - a * 4294967296 - b := by grind
  have e2 : (q - 1) * b = q * b - b := by grind
  have : q - 1 ≤ (U * 4294967296 + u) / (a * 4294967296 + b) := (Int.le_ediv_iff_mul_le hy).2 (by have := d.u0; omega)
  omega
theorem Guess.next {U u a b q r : Int} (d : Div32 U u a b) (g : Guess U u a b q r) (h : 4294967296 ≤ q ∨ r * 4294967296 + u < q * b) (hr : r + a < 4294967296) : Guess U u a b (q - 1) (r + a) :=
  ⟨by rw [g.e]; grind, by have := g.r0; have := d.a0; omega, hr, g.fails d h, by have := g.hi; omega⟩
theorem Guess.first {U u a b : Int} (d : Div32 U u a b) : Guess U u a b (U / a) (U - U / a * a) := by
  have ha : 0 < a := by have := d.a0; omega
  have h1 : U - U / a * a = U % a := by have := Int.emod_def U a; rw [this]; grind
  have hy : 0 < a * 4294967296 + b := by have := d.a0; have := d.b0; omega
  refine ⟨rfl, by rw [h1]; exact Int.emod_nonneg _ (by omega), by rw [h1]; have := Int.emod_lt_of_pos U ha; have := d.a1; omega, ?_, ?_⟩
  · have h2 : (U * 4294967296 + u) / (a * 4294967296 + b) < U / a + 1 := by
      refine (Int.ediv_lt_iff_lt_mul hy).2 ?_
      have h3 : U < (U / a + 1) * a := Int.lt_ediv_add_one_mul_self U ha
      have h4 : 0 ≤ U / a := Int.ediv_nonneg d.U0 (by omega)
      have h5 : 0 ≤ (U / a + 1) * b := Int.mul_nonneg (by omega) d.b0
      have h6 : (U / a + 1) * (a * 4294967296 + b) = (U / a + 1) * a * 4294967296 + (U / a + 1) * b := by grind
      have := d.u1
      omega
    omega
  · have h2 : U / a < 4294967298 := by
      refine (Int.ediv_lt_iff_lt_mul ha).2 ?_
      have := d.U1; have := d.b1; have := d.a0
      omega
    omega
theorem qb_small {U u a b q r : Int} (d : Div32 U u a b) (g : Guess U u a b q r) (hq : ¬ q ≥ 4294967296) : 0 ≤ q ∧ 0 ≤ q * b ∧ q * b ≤ 18446744065119617025 := by
  have hy : 0 < a * 4294967296 + b := by have := d.a0; have := d.b0; omega
  have h0 : 0 ≤ q := Int.le_trans (Int.ediv_nonneg (by have := d.U0; have := d.u0; omega) (by omega)) g.lo
  exact ⟨h0, pb q b h0 (by omega) d.b0 d.b1⟩
/-- The first digit's loop. -/
theorem l0_digit (y s a b U u un0 : Int) (d : Div32 U u a b) : ∀ (n k : Nat) (q r : Int), (4294967296 - r) ≤ n * a → n * 2 + 2 ≤ k → Guess U u a b q r →
    ∃ k', k - (n * 2 + 2) ≤ k' ∧ bits_Div64.l0 k y s a b U u un0 q r = bits_Div64.j2 k' y s a b U u un0 ((U * 4294967296 + u) / (a * 4294967296 + b)) := by
  intro n
  induction n with
  | zero =>
    intro k q r h1 h2 g
    have := g.r1
    omega
  | succ n ih =>
    intro k q r h1 h2 g
    obtain ⟨k, rfl⟩ : ∃ m, k = m + 1 := ⟨k - 1, by omega⟩
    have hr0 := g.r0
    have hr1 := g.r1
    have hu0 := d.u0
    have hu1 := d.u1
    have ha0 := d.a0
    have ha1 := d.a1
    have hghi := g.hi
    have w1 : IntKind.u64.wrap (IntKind.u64.wrap (4294967296 * r) + u) = r * 4294967296 + u := by rw [wu64, wu64]; omega
    have w2 : IntKind.u64.wrap (r + a) = r + a := by rw [wu64]; omega
    have fail : (4294967296 ≤ q ∨ r * 4294967296 + u < q * b) → 1 ≤ q → ∃ k', k + 1 - ((n + 1) * 2 + 2) ≤ k' ∧ bits_Div64.j1 k y s a b U u un0 q r true = bits_Div64.j2 k' y s a b U u un0 ((U * 4294967296 + u) / (a * 4294967296 + b)) := by
      intro hf hq1
      obtain ⟨k, rfl⟩ : ∃ m, k = m + 1 := ⟨k - 1, by omega⟩
      have w3 : IntKind.u64.wrap (q - 1) = q - 1 := by rw [wu64]; omega
      rw [bits_Div64.j1]
      simp only [if_true]
      rw [w2, w3]
      by_cases ho : r + a ≥ 4294967296
      · rw [if_pos ho, g.over d hf ho]
        exact ⟨k, by omega, rfl⟩
      · rw [if_neg ho]
        have e : ((n + 1 : Nat) : Int) * a = n * a + a := by rw [Int.natCast_add]; grind
        obtain ⟨k', hk', ek⟩ := ih k (q - 1) (r + a) (by omega) (by omega) (g.next d hf (by omega))
        exact ⟨k', by omega, ek⟩
    rw [bits_Div64.l0]
    by_cases hq : q ≥ 4294967296
    · rw [if_pos hq]
      exact fail (.inl hq) (by omega)
    · rw [if_neg hq]
      obtain ⟨q0, qb0, qb1⟩ := qb_small d g hq
      have w4 : IntKind.u64.wrap (q * b) = q * b := by rw [wu64]; omega
      rw [w1, w4]
      by_cases hf : q * b > r * 4294967296 + u
      · rw [decide_eq_true hf]
        refine fail (.inr (by omega)) ?_
        rcases Decidable.em (1 ≤ q) with h | h
        · exact h
        · exfalso
          have : q = 0 := by omega
          subst this
          omega
      · rw [decide_eq_false hf]
        obtain ⟨k, rfl⟩ : ∃ m, k = m + 1 := ⟨k - 1, by omega⟩
        rw [bits_Div64.j1]
        simp only [Bool.false_eq_true, if_false]
        rw [g.done d (by omega)]
        exact ⟨k, by omega, rfl⟩
/-- The second digit's loop, and what is handed back. -/
theorem l1_digit (y s a b U u q1 un21 : Int) (d : Div32 U u a b) (hs : 0 ≤ s) : ∀ (n k : Nat) (q r : Int), (4294967296 - r) ≤ n * a → n * 2 + 2 ≤ k → Guess U u a b q r →
    bits_Div64.l1 k y s a b u q1 r un21 q = some (IntKind.u64.wrap ((IntKind.u64.wrap (q1 * 4294967296)) + (U * 4294967296 + u) / (a * 4294967296 + b)), shr .u64 (IntKind.u64.wrap ((IntKind.u64.wrap ((IntKind.u64.wrap (un21 * 4294967296)) + u)) - (IntKind.u64.wrap ((U * 4294967296 + u) / (a * 4294967296 + b) * y)))) s) := by
  intro n
  induction n with
  | zero =>
    intro k q r h1 h2 g
    have := g.r1
    omega
  | succ n ih =>
    intro k q r h1 h2 g
    obtain ⟨k, rfl⟩ : ∃ m, k = m + 1 := ⟨k - 1, by omega⟩
    have hr0 := g.r0
    have hr1 := g.r1
    have hu0 := d.u0
    have hu1 := d.u1
    have ha0 := d.a0
    have ha1 := d.a1
    have hghi := g.hi
    have w1 : IntKind.u64.wrap (IntKind.u64.wrap (4294967296 * r) + u) = r * 4294967296 + u := by rw [wu64, wu64]; omega
    have w2 : IntKind.u64.wrap (r + a) = r + a := by rw [wu64]; omega
    have fail : (4294967296 ≤ q ∨ r * 4294967296 + u < q * b) → 1 ≤ q → bits_Div64.j4 k y s a b u q1 r un21 q true = some (IntKind.u64.wrap ((IntKind.u64.wrap (q1 * 4294967296)) + (U * 4294967296 + u) / (a * 4294967296 + b)), shr .u64 (IntKind.u64.wrap ((IntKind.u64.wrap ((IntKind.u64.wrap (un21 * 4294967296)) + u)) - (IntKind.u64.wrap ((U * 4294967296 + u) / (a * 4294967296 + b) * y)))) s) := by
      intro hf hq1
      obtain ⟨k, rfl⟩ : ∃ m, k = m + 1 := ⟨k - 1, by omega⟩
      have w3 : IntKind.u64.wrap (q - 1) = q - 1 := by rw [wu64]; omega
      rw [bits_Div64.j4]
      simp only [if_true]
      rw [w2, w3]
      by_cases ho : r + a ≥ 4294967296
      · rw [if_pos ho, if_pos hs, g.over d hf ho]
      · rw [if_neg ho]
        have e : ((n + 1 : Nat) : Int) * a = n * a + a := by rw [Int.natCast_add]; grind
        exact ih k (q - 1) (r + a) (by omega) (by omega) (g.next d hf (by omega))
    rw [bits_Div64.l1]
    by_cases hq : q ≥ 4294967296
    · rw [if_pos hq]
      exact fail (.inl hq) (by omega)
    · rw [if_neg hq]
      obtain ⟨q0, qb0, qb1⟩ := qb_small d g hq
      have w4 : IntKind.u64.wrap (q * b) = q * b := by rw [wu64]; omega
      rw [w1, w4]
      by_cases hf : q * b > r * 4294967296 + u
      · rw [decide_eq_true hf]
        refine fail (.inr (by omega)) ?_
        rcases Decidable.em (1 ≤ q) with h | h
        · exact h
        · exfalso
          have : q = 0 := by omega
          subst this
          omega
      · rw [decide_eq_false hf]
        obtain ⟨k, rfl⟩ : ∃ m, k = m + 1 := ⟨k - 1, by omega⟩
        rw [bits_Div64.j4]
        simp only [Bool.false_eq_true, if_false]
        rw [g.done d (by omega), if_pos hs]
/-- Two digits: the quotient of U * 2^64 + u1 * 2^32 + u0 by y, where y has its highest bit. -/
theorem two_digits (y s a b U u1 u0 : Int) (hy : y = a * 4294967296 + b) (d : Div32 U u1 a b) (h0 : 0 ≤ u0) (h1 : u0 < 4294967296) (hs : 0 ≤ s) (k : Nat) (hk : 20 < k) :
    ∃ Q R, bits_Div64.l0 k y s a b U u1 u0 (U / a) (U - U / a * a) = some (Q, shr .u64 R s) ∧ U * 18446744073709551616 + u1 * 4294967296 + u0 = Q * y + R ∧ 0 ≤ R ∧ R < y ∧ 0 ≤ Q := by
  have ha0 := d.a0
  have ha1 := d.a1
  have hb0 := d.b0
  have hb1 := d.b1
  have hyp : 0 < y := by omega
  have hU0 := d.U0
  have hU1 := d.U1
  have hu0 := d.u0
  have hu1 := d.u1
  have g := Guess.first d
  have gr0 := g.r0
  obtain ⟨k', hk', e⟩ := l0_digit y s a b U u1 u0 d 2 k (U / a) (U - U / a * a) (by omega) (by omega) g
  rw [e]
  obtain ⟨k', rfl⟩ : ∃ m, k' = m + 1 := ⟨k' - 1, by omega⟩
  rw [bits_Div64.j2, if_neg (by omega)]
  have hn : 0 ≤ U * 4294967296 + u1 := by omega
  have q1lt : (U * 4294967296 + u1) / y < 4294967296 := (Int.ediv_lt_iff_lt_mul hyp).2 (by omega)
  have q10 : 0 ≤ (U * 4294967296 + u1) / y := Int.ediv_nonneg hn (by omega)
  have em := Int.emod_def (U * 4294967296 + u1) y
  have er0 : 0 ≤ (U * 4294967296 + u1) % y := Int.emod_nonneg _ (by omega)
  have er1 : (U * 4294967296 + u1) % y < y := Int.emod_lt_of_pos _ hyp
  have ey : y * ((U * 4294967296 + u1) / y) = (U * 4294967296 + u1) / y * y := Int.mul_comm _ _
  rw [ey] at em
  rw [← hy]
  generalize hQ1 : (U * 4294967296 + u1) / y = q1 at *
  generalize hV : (U * 4294967296 + u1) % y = V at *
  have wV : IntKind.u64.wrap ((IntKind.u64.wrap ((IntKind.u64.wrap (U * 4294967296)) + u1)) - (IntKind.u64.wrap (q1 * y))) = V := by
    simp only [wu64]
    generalize q1 * y = p at *
    omega
  rw [wV]
  have hap : 0 < a := by omega
  have va0 : 0 ≤ V / a := Int.ediv_nonneg er0 (by omega)
  have va1 : V / a * a ≤ V := Int.ediv_mul_le _ (by omega)
  have va2 : 0 ≤ V / a * a := Int.mul_nonneg va0 (by omega)
  have va3 : V / a ≤ V := Int.ediv_le_self _ er0
  have wt : IntKind.u64.wrap (Int.tdiv V a) = V / a := by
    rw [wu64, Int.tdiv_eq_ediv_of_nonneg er0]; omega
  rw [wt]
  have wm : IntKind.u64.wrap (V / a * a) = V / a * a := by rw [wu64]; omega
  have wr : IntKind.u64.wrap (V - V / a * a) = V - V / a * a := by rw [wu64]; omega
  rw [wm, wr]
  have d2 : Div32 V u0 a b := ⟨ha0, ha1, hb0, hb1, h0, h1, er0, by omega⟩
  have g2 := Guess.first d2
  have gr2 := g2.r0
  rw [l1_digit y s a b V u0 q1 V d2 hs 2 k' (V / a) (V - V / a * a) (by omega) (by omega) g2, ← hy]
  have n2 : 0 ≤ V * 4294967296 + u0 := by omega
  have q2lt : (V * 4294967296 + u0) / y < 4294967296 := (Int.ediv_lt_iff_lt_mul hyp).2 (by omega)
  have q20 : 0 ≤ (V * 4294967296 + u0) / y := Int.ediv_nonneg n2 (by omega)
  have em2 := Int.emod_def (V * 4294967296 + u0) y
  have fr0 : 0 ≤ (V * 4294967296 + u0) % y := Int.emod_nonneg _ (by omega)
  have fr1 : (V * 4294967296 + u0) % y < y := Int.emod_lt_of_pos _ hyp
  have ey2 : y * ((V * 4294967296 + u0) / y) = (V * 4294967296 + u0) / y * y := Int.mul_comm _ _
  rw [ey2] at em2
  generalize (V * 4294967296 + u0) / y = q2 at *
  generalize (V * 4294967296 + u0) % y = R at *
  have wR : IntKind.u64.wrap ((IntKind.u64.wrap ((IntKind.u64.wrap (V * 4294967296)) + u0)) - (IntKind.u64.wrap (q2 * y))) = R := by
    simp only [wu64]
    generalize q2 * y = p at *
    omega
  have wQ : IntKind.u64.wrap ((IntKind.u64.wrap (q1 * 4294967296)) + q2) = q1 * 4294967296 + q2 := by simp only [wu64]; omega
  rw [wR, wQ]
  refine ⟨_, _, rfl, ?_, fr0, fr1, by omega⟩
  have e3 : (q1 * 4294967296 + q2) * y = q1 * y * 4294967296 + q2 * y := by grind
  rw [e3]
  generalize q2 * y = p2 at *
  generalize q1 * y = p1 at *
  omega
theorem Div64_eq (hi lo y : Int) (h0 : 0 ≤ hi) (h1 : hi < y) (l0 : 0 ≤ lo) (l1 : lo < 18446744073709551616) (y1 : y < 18446744073709551616) (k : Nat) (hk : 30 < k) :
    bits_Div64.f k hi lo y = some ((hi * 18446744073709551616 + lo) / y, (hi * 18446744073709551616 + lo) % y) := by
  unfold bits_Div64.f
  rw [if_neg (by omega), if_neg (by omega)]
  have hy : 0 < y := by omega
  by_cases hz : hi = 0
  · rw [if_pos hz, hz]
    have q0 : 0 ≤ lo / y := Int.ediv_nonneg l0 (by omega)
    have q1 : lo / y ≤ lo := Int.ediv_le_self _ l0
    rw [wu64, Int.tdiv_eq_ediv_of_nonneg l0, Int.tmod_eq_emod_of_nonneg l0]
    have e : (lo / y) % 18446744073709551616 = lo / y := by omega
    rw [e]; simp
  · rw [if_neg hz]
    obtain ⟨k, rfl⟩ : ∃ m, k = m + 1 := ⟨k - 1, by omega⟩
    obtain ⟨L, eL, L1, L64, p1, p2⟩ := Len_eq k y hy y1
    unfold bits_LeadingZeros64.f
    rw [eL]
    simp only [Option.bind_some]
    have ws : IntKind.u64.wrap (wrap64 (64 - (L : Int))) = ((64 - L : Nat) : Int) := by rw [wu64]; unfold wrap64; omega
    have ws2 : IntKind.u64.wrap (64 - ((64 - L : Nat) : Int)) = (L : Int) := by rw [wu64]; omega
    rw [ws, ws2, if_pos (by omega), if_pos (by omega)]
    have esl : ∀ x : Int, shl .u64 x ((64 - L : Nat) : Int) = (x * 2 ^ (64 - L)) % 18446744073709551616 := fun x => by
      unfold shl
      rw [wu64, Int.toNat_natCast, show min (64 - L) IntKind.u64.bits = 64 - L from Nat.min_eq_left (by show 64 - L ≤ 64; omega)]
    have esr : ∀ x : Int, shr .u64 x (L : Int) = x / 2 ^ L := fun x => by
      unfold shr
      rw [Int.toNat_natCast, show min L IntKind.u64.bits = L from Nat.min_eq_left L64]
    have esr2 : ∀ x : Int, shr .u64 x ((64 - L : Nat) : Int) = x / 2 ^ (64 - L) := fun x => by
      unfold shr
      rw [Int.toNat_natCast, show min (64 - L) IntKind.u64.bits = 64 - L from Nat.min_eq_left (by show 64 - L ≤ 64; omega)]
    have hD : (0 : Int) < 2 ^ (64 - L) := Int.pow_pos (by decide)
    have hE : (0 : Int) < 2 ^ L := Int.pow_pos (by decide)
    have hDE : (2 : Int) ^ L * 2 ^ (64 - L) = 18446744073709551616 := by
      rw [← Int.pow_add, show L + (64 - L) = 64 by omega]; decide
    have hDE2 : (2 : Int) ^ (L - 1) * 2 ^ (64 - L) = 9223372036854775808 := by
      rw [← Int.pow_add, show L - 1 + (64 - L) = 63 by omega]; decide
    have hor : ∀ x z : Int, 0 ≤ x → x % 2 ^ (64 - L) = 0 → x < 18446744073709551616 → 0 ≤ z → z < 2 ^ (64 - L) → z < 18446744073709551616 → Go.bits .or .u64 x z = x + z := fun x z a1 a2 a3 a4 a5 a6 =>
      bits_join .u64 64 (by decide) (fun n a b => by rw [wu64]; omega) (64 - L) x z a1 a2 (by omega) a4 a5 (by omega)
    simp only [esl, esr]
    generalize hDd : (2 : Int) ^ (64 - L) = D at *
    generalize hEd : (2 : Int) ^ L = E at *
    generalize (2 : Int) ^ (L - 1) = E2 at *
    have yD1 : y * D < 18446744073709551616 := by
      rw [← hDE]; exact Int.mul_lt_mul_of_pos_right p2 hD
    have yD0 : 9223372036854775808 ≤ y * D := by
      rw [← hDE2]; exact Int.mul_le_mul_of_nonneg_right p1 (by omega)
    have ey : y * D % 18446744073709551616 = y * D := by omega
    rw [ey]
    have hD1 : hi * D ≤ (y - 1) * D := Int.mul_le_mul_of_nonneg_right (by omega) (by omega)
    have hD2 : (y - 1) * D = y * D - D := by grind
    have hD0 : 0 ≤ hi * D := Int.mul_nonneg h0 (by omega)
    have ehi : hi * D % 18446744073709551616 = hi * D := by omega
    rw [ehi]
    have lE0 : 0 ≤ lo / E := Int.ediv_nonneg l0 (by omega)
    have lE1 : lo / E < D := (Int.ediv_lt_iff_lt_mul hE).2 (by rw [Int.mul_comm, hDE]; exact l1)
    have elo : lo * D / 18446744073709551616 = lo / E := by
      rw [← hDE]; exact Int.mul_ediv_mul_of_pos_left lo E hD
    rw [hor (hi * D) (lo / E) hD0 (Int.mul_emod_left _ _) (by omega) lE0 lE1 (by omega), and32 (y * D) (by omega) (by omega), and32 _ (by omega) (by omega)]
    have lD0 : 0 ≤ lo * D := Int.mul_nonneg l0 (by omega)
    rw [if_neg (by omega)]
    have d : Div32 (hi * D + lo / E) (lo * D % 18446744073709551616 / 4294967296) (y * D / 4294967296) (y * D % 4294967296) := ⟨by omega, by omega, by omega, by omega, by omega, by omega, by omega, by omega⟩
    have hap : 0 < y * D / 4294967296 := by omega
    have U0 : 0 ≤ hi * D + lo / E := by omega
    have ua0 : 0 ≤ (hi * D + lo / E) / (y * D / 4294967296) := Int.ediv_nonneg U0 (by omega)
    have ua1 : (hi * D + lo / E) / (y * D / 4294967296) * (y * D / 4294967296) ≤ hi * D + lo / E := Int.ediv_mul_le _ (by omega)
    have ua2 : 0 ≤ (hi * D + lo / E) / (y * D / 4294967296) * (y * D / 4294967296) := Int.mul_nonneg ua0 (by omega)
    have ua3 : (hi * D + lo / E) / (y * D / 4294967296) ≤ hi * D + lo / E := Int.ediv_le_self _ U0
    have wt : IntKind.u64.wrap (Int.tdiv (hi * D + lo / E) (y * D / 4294967296)) = (hi * D + lo / E) / (y * D / 4294967296) := by
      rw [wu64, Int.tdiv_eq_ediv_of_nonneg U0]; omega
    rw [wt]
    have wm : IntKind.u64.wrap ((hi * D + lo / E) / (y * D / 4294967296) * (y * D / 4294967296)) = (hi * D + lo / E) / (y * D / 4294967296) * (y * D / 4294967296) := by rw [wu64]; omega
    have wr : IntKind.u64.wrap (hi * D + lo / E - (hi * D + lo / E) / (y * D / 4294967296) * (y * D / 4294967296)) = hi * D + lo / E - (hi * D + lo / E) / (y * D / 4294967296) * (y * D / 4294967296) := by rw [wu64]; omega
    rw [wm, wr]
    obtain ⟨Q, R, e, eQ, R0, R1, Q0⟩ := two_digits (y * D) ((64 - L : Nat) : Int) (y * D / 4294967296) (y * D % 4294967296) (hi * D + lo / E) (lo * D % 18446744073709551616 / 4294967296) (lo * D % 18446744073709551616 % 4294967296) (by omega) d (by omega) (by omega) (by omega) (k + 1) (by omega)
    rw [e, esr2]
    have hN : (hi * 18446744073709551616 + lo) * D = Q * (y * D) + R := by
      rw [← eQ]
      have e1 : (hi * 18446744073709551616 + lo) * D = hi * D * 18446744073709551616 + lo * D := by grind
      rw [e1]
      generalize hi * D = x at *
      generalize lo * D = z at *
      omega
    have hR : R = (hi * 18446744073709551616 + lo - Q * y) * D := by
      have : (hi * 18446744073709551616 + lo - Q * y) * D = (hi * 18446744073709551616 + lo) * D - Q * (y * D) := by grind
      rw [this, hN]; omega
    generalize hr : hi * 18446744073709551616 + lo - Q * y = r at *
    have r0 : 0 ≤ r := by
      rcases Decidable.em (0 ≤ r) with h | h
      · exact h
      · exfalso
        have : r * D ≤ (-1) * D := Int.mul_le_mul_of_nonneg_right (by omega) (by omega)
        omega
    have r1 : r < y := by
      rcases Decidable.em (r < y) with h | h
      · exact h
      · exfalso
        have : y * D ≤ r * D := Int.mul_le_mul_of_nonneg_right (by omega) (by omega)
        omega
    have eR : R / D = r := by rw [hR]; exact Int.mul_ediv_cancel _ (by omega)
    rw [eR]
    obtain ⟨g1, g2⟩ := (Int.ediv_emod_unique hy).2 (⟨by rw [← hr]; grind, r0, r1⟩ : r + y * Q = hi * 18446744073709551616 + lo ∧ 0 ≤ r ∧ r < y)
    rw [g1, g2]
/-- A product over a number, cut down, or up. -/
def divS (a b c : Int) (up : Bool) : Int := if up = true then -((-(a * b)) / c) else a * b / c
/-- A number of 64 bits with a sign. -/
def In64 (n : Int) : Prop := -9223372036854775808 ≤ n ∧ n ≤ 9223372036854775807
instance (n : Int) : Decidable (In64 n) := by unfold In64; infer_instance
theorem size_eq (a : Int) (h : In64 a) : fix_size.f a = some (if a < 0 then -a else a, decide (a < 0)) := by
  obtain ⟨h0, h1⟩ := h
  unfold fix_size.f
  by_cases hn : a < 0
  · rw [if_pos hn, if_pos hn, decide_eq_true hn, wu64, wu64]
    have : -(a % 18446744073709551616) % 18446744073709551616 = -a := by omega
    rw [this]
  · rw [if_neg hn, if_neg hn, decide_eq_false hn, wu64]
    have : a % 18446744073709551616 = a := by omega
    rw [this]
theorem signed_eq (n : Int) (below : Bool) (h0 : 0 ≤ n) (h1 : n < 18446744073709551616) (k : Nat) :
    fix_signed.f (k + 1) n below = some (if In64 (if below = true then -n else n) then (if below = true then -n else n, true) else (0, false)) := by
  unfold fix_signed.f
  cases below with
  | true =>
    simp only [if_true]
    rw [fix_signed.j0]
    by_cases h : n ≤ 9223372036854775808
    · rw [decide_eq_true h, if_pos rfl, if_pos (by unfold In64; omega)]
      have : wrap64 (-(wrap64 n)) = -n := by unfold wrap64; omega
      rw [this]
    · rw [decide_eq_false h]
      simp only [Bool.false_eq_true, if_false, if_true]
      rw [if_neg (by unfold In64; omega)]
  | false =>
    simp only [Bool.false_eq_true, if_false]
    rw [fix_signed.j0]
    simp only [Bool.false_eq_true, if_false]
    by_cases h : n < 9223372036854775808
    · rw [if_pos h, if_pos (by unfold In64; omega)]
      have : wrap64 n = n := by unfold wrap64; omega
      rw [this]
    · rw [if_neg h, if_neg (by unfold In64; omega)]
theorem or_ne (x y : Int) (x0 : 0 ≤ x) (x1 : x < 18446744073709551616) (y0 : 0 ≤ y) (y1 : y < 18446744073709551616) : (Go.bits .or .u64 x y != 0) = decide (x ≠ 0 ∨ y ≠ 0) := by
  obtain ⟨a, rfl⟩ := Int.eq_ofNat_of_zero_le x0
  obtain ⟨b, rfl⟩ := Int.eq_ofNat_of_zero_le y0
  rw [(bits_nat .u64 64 (by decide) (fun n a b => by rw [wu64]; omega) a b (by omega) (by omega)).2]
  rw [Bool.eq_iff_iff]
  simp only [bne_iff_ne, ne_eq, decide_eq_true_eq]
  have := @Nat.or_eq_zero_iff a b
  omega
theorem neg_div (A c : Int) (hc : 0 < c) : (-A) / c = -(A / c) - (if A % c > 0 then 1 else 0) := by
  have e := Int.emod_add_mul_ediv A c
  have m0 := Int.emod_nonneg A (show c ≠ 0 by omega)
  have m1 := Int.emod_lt_of_pos A hc
  generalize hq : A / c = q at *
  generalize hr : A % c = r at *
  by_cases h : r > 0
  · rw [if_pos h]
    have e2 : c * (-q - 1) = -(c * q) - c := by grind
    exact ((Int.ediv_emod_unique hc).2 (⟨by rw [e2]; omega, by omega, by omega⟩ : (c - r) + c * (-q - 1) = -A ∧ 0 ≤ c - r ∧ c - r < c)).1
  · rw [if_neg h]
    have e2 : c * (-q - 0) = -(c * q) := by grind
    exact ((Int.ediv_emod_unique hc).2 (⟨by rw [e2]; omega, by omega, by omega⟩ : 0 + c * (-q - 0) = -A ∧ (0 : Int) ≤ 0 ∧ (0 : Int) < c)).1
theorem abs_mul (a b : Int) : (if a < 0 then -a else a) * (if b < 0 then -b else b) = if (a < 0) ≠ (b < 0) then -(a * b) else a * b := by
  by_cases h1 : a < 0 <;> by_cases h2 : b < 0 <;> simp [h1, h2] <;> grind
theorem Div_none (a b c : Int) (up : Bool) (k : Nat) (h : c ≤ 0) : fix_Div.f k a b c up = some (0, false) := by
  unfold fix_Div.f; rw [if_pos h]
theorem Div_eq (a b c : Int) (up : Bool) (ha : In64 a) (hb : In64 b) (hc : 0 < c) (hc1 : c ≤ 9223372036854775807) (k : Nat) (hk : 40 < k) :
    fix_Div.f k a b c up = some (if In64 (divS a b c up) then (divS a b c up, true) else (0, false)) := by
  unfold fix_Div.f
  rw [if_neg (by omega), size_eq a ha, size_eq b hb]
  simp only [Option.bind_some]
  have hx0 : 0 ≤ (if a < 0 then -a else a) ∧ (if a < 0 then -a else a) ≤ 9223372036854775808 := by unfold In64 at ha; split <;> omega
  have hy0 : 0 ≤ (if b < 0 then -b else b) ∧ (if b < 0 then -b else b) ≤ 9223372036854775808 := by unfold In64 at hb; split <;> omega
  have hab := abs_mul a b
  generalize hx : (if a < 0 then -a else a) = x at *
  generalize hy : (if b < 0 then -b else b) = y at *
  rw [Wide_eq x y hx0.1 (by omega) hy0.1 (by omega)]
  simp only [Option.bind_some]
  have wc : IntKind.u64.wrap c = c := by rw [wu64]; omega
  rw [wc]
  have A0 : 0 ≤ x * y := Int.mul_nonneg hx0.1 hy0.1
  have A1 : x * y ≤ 9223372036854775808 * 9223372036854775808 := Int.mul_le_mul hx0.2 hy0.2 hy0.1 (by omega)
  have hbe : (decide (a < 0) != decide (b < 0)) = decide ((a < 0) ≠ (b < 0)) := by
    by_cases h1 : a < 0 <;> by_cases h2 : b < 0 <;> simp [h1, h2]
  have hP : a * b = if ((a < 0) ≠ (b < 0)) then -(x * y) else x * y := by
    rw [hab]; split <;> omega
  generalize hA : x * y = A at *
  have hq : A / c * c ≤ A := Int.ediv_mul_le _ (by omega)
  have hr0 : 0 ≤ A % c := Int.emod_nonneg _ (by omega)
  have hq0 : 0 ≤ A / c := Int.ediv_nonneg A0 (by omega)
  have hS : divS a b c up = (if ((a < 0) ≠ (b < 0)) then -(A / c + (if A % c > 0 ∧ up = false then 1 else 0)) else (A / c + (if A % c > 0 ∧ up = true then 1 else 0))) := by
    have hn := neg_div A c hc
    unfold divS
    rw [hP]
    cases up <;> by_cases h : ((a < 0) ≠ (b < 0)) <;> simp only [if_pos h, if_neg h, Bool.false_eq_true, if_false, if_true, and_true, and_false, Int.neg_neg, reduceCtorEq]
    · rw [hn]; split <;> omega
    · omega
    · omega
    · rw [hn]; split <;> omega
  by_cases hbig : A / 18446744073709551616 ≥ c
  · rw [if_pos hbig]
    have h2 : 18446744073709551616 ≤ A / c := (Int.le_ediv_iff_mul_le hc).2 (by omega)
    have hno : ¬ In64 (divS a b c up) := by
      rw [hS]; unfold In64
      split <;> split <;> omega
    rw [if_neg hno]
  · rw [if_neg hbig]
    have em : A / 18446744073709551616 * 18446744073709551616 + A % 18446744073709551616 = A := by omega
    rw [Div64_eq _ _ c (by omega) (by omega) (by omega) (by omega) (by omega) k (by omega), em]
    simp only [Option.bind_some]
    have hq1 : A / c < 18446744073709551616 := (Int.ediv_lt_iff_lt_mul hc).2 (by omega)
    have hj : ∀ below : Bool, (below = true → ((a < 0) ≠ (b < 0))) → (below = false → ¬ ((a < 0) ≠ (b < 0)) ∨ A = 0) →
        fix_Div.j0 k up (A / c) (A % c) below = some (if In64 (divS a b c up) then (divS a b c up, true) else (0, false)) := by
      intro below hb1 hb2
      have hval : divS a b c up = if below = true then -(A / c + (if A % c > 0 ∧ up ≠ below then 1 else 0)) else (A / c + (if A % c > 0 ∧ up ≠ below then 1 else 0)) := by
        rw [hS]
        cases below with
        | true => rw [if_pos (hb1 rfl), if_pos rfl]; cases up <;> simp
        | false =>
          rcases hb2 rfl with h | h
          · simp only [if_neg h, Bool.false_eq_true, if_false]; cases up <;> simp
          · subst h
            simp
      obtain ⟨k, rfl⟩ : ∃ m, k = m + 1 := ⟨k - 1, by omega⟩
      rw [fix_Div.j0]
      obtain ⟨k, rfl⟩ : ∃ m, k = m + 1 := ⟨k - 1, by omega⟩
      have plain : ¬ (A % c > 0 ∧ up ≠ below) → fix_Div.j1 (k + 1) (A / c) below false = some (if In64 (divS a b c up) then (divS a b c up, true) else (0, false)) := by
        intro hn
        rw [fix_Div.j1]
        simp only [Bool.false_eq_true, if_false]
        obtain ⟨k, rfl⟩ : ∃ m, k = m + 1 := ⟨k - 1, by omega⟩
        rw [signed_eq _ below hq0 hq1, hval, if_neg hn, Int.add_zero]
        rfl
      by_cases hr : A % c > 0
      · rw [if_pos hr]
        by_cases hu : up = below
        · have : (up != below) = false := by rw [hu]; simp
          rw [this]; exact plain (fun h => h.2 hu)
        · have : (up != below) = true := by simpa using hu
          rw [this, fix_Div.j1]
          simp only [if_true]
          have hval2 : divS a b c up = if below = true then -(A / c + 1) else (A / c + 1) := by rw [hval]; simp only [if_pos (show A % c > 0 ∧ up ≠ below from ⟨hr, hu⟩)]
          by_cases ho : A / c + 1 = 18446744073709551616
          · have w0 : IntKind.u64.wrap (A / c + 1) = 0 := by rw [wu64, ho]; decide
            rw [w0, if_pos rfl, if_neg (by rw [hval2]; unfold In64; split <;> omega)]
          · have w0 : IntKind.u64.wrap (A / c + 1) = A / c + 1 := by rw [wu64]; omega
            rw [w0, if_neg (by omega)]
            obtain ⟨k, rfl⟩ : ∃ m, k = m + 1 := ⟨k - 1, by omega⟩
            rw [signed_eq _ below (by omega) (by omega), hval2]
            rfl
      · rw [if_neg hr]; exact plain (fun h => hr h.1)
    rw [hbe]
    by_cases hne : ((a < 0) ≠ (b < 0))
    · rw [decide_eq_true hne]
      simp only [if_true]
      rw [or_ne _ _ (by omega) (by omega) (by omega) (by omega)]
      refine hj _ (fun _ => hne) (fun h => .inr ?_)
      have := of_decide_eq_false h
      omega
    · rw [decide_eq_false hne]
      simp only [Bool.false_eq_true, if_false]
      exact hj false (fun h => by simp at h) (fun _ => .inl hne)
theorem within_eq (a m : Int) : money_within.f a m = some (decide (0 ≤ a ∧ a ≤ m)) := by
  unfold money_within.f
  by_cases h : a ≥ 0
  · rw [if_pos h]; exact congrArg some (decide_eq_decide.2 (by omega))
  · rw [if_neg h, decide_eq_false (by omega)]
/-- What is not above the greatest amount. -/
def ov (n : Int) : Int × Option Int := if n ≤ 1000000000000000 then (n, none) else (0, some 104)
theorem over_eq (a b c : Int) (up : Bool) (ha : In64 a) (hb : In64 b) (hc : 0 < c) (hc1 : c ≤ 9223372036854775807) (h0 : 0 ≤ divS a b c up) (k : Nat) (hk : 40 < k) :
    money_over.f k a b c up = some (ov (divS a b c up)) := by
  unfold money_over.f ov
  rw [Div_eq a b c up ha hb hc hc1 k hk]
  generalize divS a b c up = n at *
  simp only [Option.bind_some]
  by_cases h : In64 n
  · rw [if_pos h]
    simp only [if_true]
    by_cases h2 : n ≤ 1000000000000000
    · rw [if_neg (by omega), if_pos h2]
    · rw [if_pos (by omega), if_neg h2]
  · rw [if_neg h]
    simp only [Bool.false_eq_true, if_false]
    rw [if_neg (by unfold In64 at h; omega)]
theorem down_eq (a b c : Int) (ha : 0 ≤ a) (ha1 : a ≤ 9223372036854775807) (hb : 0 ≤ b) (hb1 : b ≤ 9223372036854775807) (hc : 0 < c) (hc1 : c ≤ 9223372036854775807) (k : Nat) (hk : 40 < k) :
    money_over.f k a b c false = some (ov (a * b / c)) := by
  have e : divS a b c false = a * b / c := by unfold divS; simp
  have h0 : 0 ≤ a * b / c := Int.ediv_nonneg (Int.mul_nonneg ha hb) (by omega)
  rw [over_eq a b c false (by unfold In64; omega) (by unfold In64; omega) hc hc1 (by rw [e]; exact h0) k hk, e]
theorem ov_fit (n : Int) (h : n ≤ 1000000000000000) : ov n = (n, none) := by unfold ov; rw [if_pos h]
theorem Worth_eq (q p : Int) (k : Nat) (hk : 40 < k) : money_Worth.f k q p = some (if (0 ≤ q ∧ q ≤ 1000000000000) ∧ 0 ≤ p ∧ p ≤ 1000000000 then ov (q * p / 10000) else (0, some 103)) := by
  unfold money_Worth.f
  rw [within_eq, within_eq]
  simp only [Option.bind_some, decide_eq_true_eq]
  by_cases h1 : 0 ≤ q ∧ q ≤ 1000000000000
  · by_cases h2 : 0 ≤ p ∧ p ≤ 1000000000
    · rw [if_pos h1, if_pos h2, if_pos ⟨h1, h2⟩, down_eq q p 10000 (by omega) (by omega) (by omega) (by omega) (by omega) (by omega) k hk]
      rfl
    · rw [if_pos h1, if_neg h2, if_neg (fun h => h2 h.2)]
  · rw [if_neg h1, if_neg (fun h => h1 h.1)]
theorem Base_full (v r : Int) (k : Nat) (hk : 40 < k) : money_Base.f k v r = some (if (0 ≤ v ∧ v ≤ 1000000000000000) ∧ 0 ≤ r ∧ r ≤ 1000000000 then ov (v * r / 1000000) else (0, some 103)) := by
  unfold money_Base.f
  rw [within_eq, within_eq]
  simp only [Option.bind_some, decide_eq_true_eq]
  by_cases h1 : 0 ≤ v ∧ v ≤ 1000000000000000
  · by_cases h2 : 0 ≤ r ∧ r ≤ 1000000000
    · rw [if_pos h1, if_pos h2, if_pos ⟨h1, h2⟩, down_eq v r 1000000 (by omega) (by omega) (by omega) (by omega) (by omega) (by omega) k hk]
      rfl
    · rw [if_pos h1, if_neg h2, if_neg (fun h => h2 h.2)]
  · rw [if_neg h1, if_neg (fun h => h1 h.1)]
theorem Less_full (v b : Int) (k : Nat) (hk : 40 < k) : money_Less.f k v b = some (if (0 ≤ v ∧ v ≤ 1000000000000000) ∧ 0 ≤ b ∧ b ≤ 10000 then ov (v * (10000 - b) / 10000) else (0, some 103)) := by
  unfold money_Less.f
  rw [within_eq, within_eq]
  simp only [Option.bind_some, decide_eq_true_eq]
  by_cases h1 : 0 ≤ v ∧ v ≤ 1000000000000000
  · by_cases h2 : 0 ≤ b ∧ b ≤ 10000
    · rw [if_pos h1, if_pos h2, if_pos ⟨h1, h2⟩, w64s (10000 - b) (by omega) (by omega), down_eq v (10000 - b) 10000 (by omega) (by omega) (by omega) (by omega) (by omega) (by omega) k hk]
      rfl
    · rw [if_pos h1, if_neg h2, if_neg (fun h => h2 h.2)]
  · rw [if_neg h1, if_neg (fun h => h1 h.1)]
/-- What so many are worth, in their currency; in the base; less a cut; whether they count. -/
def vw (cls q p : Int) : Int × Option Int := if cls = 1 then (if 0 ≤ q ∧ q ≤ 1000000000000 then (q, none) else (0, some 103)) else if (0 ≤ q ∧ q ≤ 1000000000000) ∧ 0 ≤ p ∧ p ≤ 1000000000 then ov (q * p / 10000) else (0, some 103)
def vb (v r : Int) : Int × Option Int := if (0 ≤ v ∧ v ≤ 1000000000000000) ∧ 0 ≤ r ∧ r ≤ 1000000000 then ov (v * r / 1000000) else (0, some 103)
def vl (v b : Int) : Int × Option Int := if (0 ≤ v ∧ v ≤ 1000000000000000) ∧ 0 ≤ b ∧ b ≤ 10000 then ov (v * (10000 - b) / 10000) else (0, some 103)
def cnt (iss en td ow : Int) (on : Bool) : Bool := on && decide (en = 0 ∨ td < en) && decide (ow = 0 ∨ iss ≠ ow)
theorem worth_eq (i0 i1 cls i3 i4 q p : Int) (k : Nat) (hk : 40 < k) : value_worth.f k i0 i1 cls i3 i4 q p = some (vw cls q p) := by
  unfold value_worth.f asset_Cash.f vw
  simp only [Option.bind_some, beq_iff_eq]
  by_cases h : cls = 1
  · rw [if_pos h, if_pos h]
    by_cases h1 : q < 0
    · rw [if_pos h1, if_neg (by omega)]
    · rw [if_neg h1]
      by_cases h2 : q > 1000000000000
      · rw [if_pos h2, if_neg (by omega)]
      · rw [if_neg h2, if_pos (by omega)]
  · rw [if_neg h, if_neg h, Worth_eq q p k hk]
    rfl
theorem Counts_eq (i0 iss i2 i3 en td ow : Int) (on : Bool) (p r c : Int) : value_Counts.f i0 iss i2 i3 en td ow on p r c = some (cnt iss en td ow on) := by
  unfold value_Counts.f asset_Live.f day_Left.f cnt
  cases on
  · simp
  · simp only [Bool.true_and, if_true]
    by_cases h0 : en = 0
    · rw [if_pos h0]
      simp only [Option.bind_some, if_true]
      by_cases h1 : ow = 0
      · rw [if_pos h1]; simp [h0, h1]
      · rw [if_neg h1]; simp [h0, h1, bne]
        rw [Bool.eq_iff_iff]; simp
    · rw [if_neg h0]
      by_cases h2 : en ≤ td
      · rw [if_pos h2]
        have : ¬ td < en := by omega
        simp [h0, this]
      · rw [if_neg h2]
        have : td < en := by omega
        simp only [Option.bind_some, if_true]
        by_cases h1 : ow = 0
        · rw [if_pos h1]; simp [this, h1]
        · rw [if_neg h1]; simp [this, h1, bne]
          rw [Bool.eq_iff_iff]; simp
/-- What so many of an asset are worth: the steps, or why not. -/
def vof (iss cls en q td ow : Int) (on : Bool) (p r c : Int) : Int × Int × Int × Option Int :=
  if (vw cls q p).2.isNone = true then (if (vb (vw cls q p).1 r).2.isNone = true then (if cnt iss en td ow on = true then (if (vl (vb (vw cls q p).1 r).1 c).2.isNone = true then ((vw cls q p).1, (vb (vw cls q p).1 r).1, (vl (vb (vw cls q p).1 r).1 c).1, none) else (0, 0, 0, (vl (vb (vw cls q p).1 r).1 c).2)) else ((vw cls q p).1, (vb (vw cls q p).1 r).1, 0, none)) else (0, 0, 0, (vb (vw cls q p).1 r).2)) else (0, 0, 0, (vw cls q p).2)
theorem some_getD (x : Option Int) (h : ¬ x.isNone = true) : some (x.getD 0) = x := by cases x <;> simp_all
theorem vOf_eq (i0 iss cls i3 en q td ow : Int) (on : Bool) (p r c : Int) (k : Nat) (hk : 40 < k) : value_Of.f k i0 iss cls i3 en q td ow on p r c = some (vof iss cls en q td ow on p r c) := by
  unfold value_Of.f vof
  rw [worth_eq _ _ _ _ _ _ _ k hk]
  simp only [Option.bind_some]
  generalize vw cls q p = W
  by_cases h1 : W.2.isNone = true
  · rw [if_pos h1, if_pos h1, Base_full _ _ k hk]
    simp only [Option.bind_some]
    rw [show (if (0 ≤ W.1 ∧ W.1 ≤ 1000000000000000) ∧ 0 ≤ r ∧ r ≤ 1000000000 then ov (W.1 * r / 1000000) else (0, some 103)) = vb W.1 r from rfl]
    generalize vb W.1 r = B
    by_cases h2 : B.2.isNone = true
    · rw [if_pos h2, if_pos h2, Counts_eq]
      simp only [Option.bind_some]
      by_cases h3 : cnt iss en td ow on = true
      · rw [if_pos h3, if_pos h3, Less_full _ _ k hk]
        simp only [Option.bind_some]
        rw [show (if (0 ≤ B.1 ∧ B.1 ≤ 1000000000000000) ∧ 0 ≤ c ∧ c ≤ 10000 then ov (B.1 * (10000 - c) / 10000) else (0, some 103)) = vl B.1 c from rfl]
        generalize vl B.1 c = L
        by_cases h4 : L.2.isNone = true
        · rw [if_pos h4, if_pos h4]
        · rw [if_neg h4, if_neg h4, some_getD _ h4]
      · rw [if_neg h3, if_neg h3]
    · rw [if_neg h2, if_neg h2, some_getD _ h2]
  · rw [if_neg h1, if_neg h1, some_getD _ h1]
theorem first15_eq (k : Nat) (hk : 40 < k) : pledgelaw15_first.f k = some true := by
  unfold pledgelaw15_first.f
  rw [vOf_eq _ _ _ _ _ _ _ _ _ _ _ _ k hk]
  rfl
theorem vF_big : 40 < vF := by decide
theorem tmod_rng (a m : Int) (h : 0 < m) : -m < Int.tmod a m ∧ Int.tmod a m < m := by
  have h1 := Int.tmod_lt_of_pos a h
  have h2 := Int.lt_tmod_of_pos a h
  exact ⟨by omega, h1⟩
theorem numW_rng (a m : Int) (h : 0 < m) (h2 : m ≤ 100000000) : 0 ≤ numW a m ∧ numW a m < m := by
  have h1 := tmod_rng a m h
  unfold numW
  generalize Int.tmod a m = t at h1 ⊢
  split
  · have e : wrap64 (t + m) = t + m := by unfold wrap64; omega
    rw [e]; omega
  · omega
theorem mul_rng {a b A B : Int} (ha : 0 ≤ a) (ha' : a ≤ A) (hb : 0 ≤ b) (hb' : b ≤ B) : 0 ≤ a * b ∧ a * b ≤ A * B :=
  ⟨Int.mul_nonneg ha hb, Int.le_trans (Int.mul_le_mul_of_nonneg_right ha' hb) (Int.mul_le_mul_of_nonneg_left hb' (Int.le_trans ha ha'))⟩
/-- The steps, in numbers that fit. -/
def wW (q p : Int) : Int := q * p / 10000
def wB (q p r : Int) : Int := wW q p * r / 1000000
def wV (q p r c : Int) : Int := wB q p r * (10000 - c) / 10000
theorem wW_rng {q p : Int} (h1 : 0 ≤ q) (h2 : q ≤ 2000000) (h3 : 0 ≤ p) (h4 : p ≤ 1000000) : 0 ≤ wW q p ∧ wW q p ≤ 200000000 := by
  have h := mul_rng h1 h2 h3 h4
  unfold wW
  generalize q * p = z at h ⊢
  omega
theorem wB_rng {q p r : Int} (h1 : 0 ≤ q) (h2 : q ≤ 2000000) (h3 : 0 ≤ p) (h4 : p ≤ 1000000) (h5 : 0 ≤ r) (h6 : r ≤ 3000000) : 0 ≤ wB q p r ∧ wB q p r ≤ 600000000 := by
  have hw := wW_rng h1 h2 h3 h4
  have h := mul_rng hw.1 hw.2 h5 h6
  unfold wB
  generalize wW q p * r = z at h ⊢
  omega
theorem wV_rng {q p r c : Int} (h1 : 0 ≤ q) (h2 : q ≤ 2000000) (h3 : 0 ≤ p) (h4 : p ≤ 1000000) (h5 : 0 ≤ r) (h6 : r ≤ 3000000) (h7 : 0 ≤ c) (h8 : c ≤ 10000) : 0 ≤ wV q p r c ∧ wV q p r c ≤ wB q p r := by
  have hb := wB_rng h1 h2 h3 h4 h5 h6
  unfold wV
  generalize wB q p r = b at hb ⊢
  have h := mul_rng hb.1 (Int.le_refl b) (show 0 ≤ 10000 - c by omega) (show 10000 - c ≤ 10000 by omega)
  generalize b * (10000 - c) = z at h ⊢
  omega
theorem vof_small {en q ow p r c : Int} {on : Bool} (h1 : 0 ≤ q) (h2 : q ≤ 2000000) (h3 : 0 ≤ p) (h4 : p ≤ 1000000) (h5 : 0 ≤ r) (h6 : r ≤ 3000000) (h7 : 0 ≤ c) (h8 : c ≤ 10000) :
    vof 4 2 en q 5 ow on p r c = (wW q p, wB q p r, (if cnt 4 en 5 ow on = true then wV q p r c else 0), none) := by
  have hw := wW_rng h1 h2 h3 h4
  have hb := wB_rng h1 h2 h3 h4 h5 h6
  have hv := wV_rng h1 h2 h3 h4 h5 h6 h7 h8
  have e1 : vw 2 q p = (wW q p, none) := by
    unfold vw
    rw [if_neg (by omega), if_pos ⟨⟨h1, by omega⟩, h3, by omega⟩]
    exact ov_fit _ (by show wW q p ≤ _; omega)
  have e2 : vb (wW q p) r = (wB q p r, none) := by
    unfold vb
    rw [if_pos ⟨⟨hw.1, by omega⟩, h5, by omega⟩]
    exact ov_fit _ (by show wB q p r ≤ _; omega)
  have e3 : vl (wB q p r) c = (wV q p r c, none) := by
    unfold vl
    rw [if_pos ⟨⟨hb.1, by omega⟩, h7, h8⟩]
    exact ov_fit _ (by show wV q p r c ≤ _; omega)
  unfold vof
  rw [e1]
  simp only []
  rw [e2]
  simp only []
  rw [e3]
  by_cases hc : cnt 4 en 5 ow on = true
  · simp [hc]
  · simp [hc]
theorem wW_mono {q q' p : Int} (h : q ≤ q') (h3 : 0 ≤ p) : wW q p ≤ wW q' p := Int.ediv_le_ediv (by omega) (Int.mul_le_mul_of_nonneg_right h h3)
theorem wB_mono {q q' p r : Int} (h : q ≤ q') (h3 : 0 ≤ p) (h5 : 0 ≤ r) : wB q p r ≤ wB q' p r := Int.ediv_le_ediv (by omega) (Int.mul_le_mul_of_nonneg_right (wW_mono h h3) h5)
theorem wV_mono {q q' p r c : Int} (h : q ≤ q') (h3 : 0 ≤ p) (h5 : 0 ≤ r) (h8 : c ≤ 10000) : wV q p r c ≤ wV q' p r c := Int.ediv_le_ediv (by omega) (Int.mul_le_mul_of_nonneg_right (wB_mono h h3 h5) (by omega))
theorem wV_cut {q p r c c' : Int} (hb : 0 ≤ wB q p r) (h : c ≤ c') : wV q p r c' ≤ wV q p r c := Int.ediv_le_ediv (by omega) (Int.mul_le_mul_of_nonneg_left (by omega) hb)
theorem falls {q mo pr ra ca cb : Int} (h1 : 0 ≤ q) (h2 : q ≤ mo) (h2' : mo ≤ 2000000) (h3 : 0 ≤ pr) (h4 : pr ≤ 1000000) (h5 : 0 ≤ ra) (h6 : ra ≤ 3000000) (h7 : 0 ≤ ca) (h8 : ca ≤ 10000) (h9 : 0 ≤ cb) (h10 : cb ≤ 10000) : fallF q mo pr ra ca cb = some true := by
  have hb := wB_rng h1 (show q ≤ 2000000 by omega) h3 h4 h5 h6
  have hv := wV_rng h1 (show q ≤ 2000000 by omega) h3 h4 h5 h6 h7 h8
  have c1 : cnt 4 0 5 0 true = true := by decide
  have c2 : cnt 4 0 5 0 false = false := by decide
  have c3 : cnt 4 0 5 4 true = false := by decide
  have c4 : cnt 4 5 5 0 true = false := by decide
  unfold fallF
  rw [vOf_eq _ _ _ _ _ _ _ _ _ _ _ _ vF vF_big, vof_small h1 (by omega) h3 h4 h5 h6 h7 h8, c1, if_pos rfl, Option.bind_some,
    vOf_eq _ _ _ _ _ _ _ _ _ _ _ _ vF vF_big, vof_small (by omega) h2' h3 h4 h5 h6 h7 h8, c1, if_pos rfl, Option.bind_some,
    vOf_eq _ _ _ _ _ _ _ _ _ _ _ _ vF vF_big, vof_small h1 (by omega) h3 h4 h5 h6 h9 h10, c1, if_pos rfl, Option.bind_some,
    vOf_eq _ _ _ _ _ _ _ _ _ _ _ _ vF vF_big, vof_small h1 (by omega) h3 h4 h5 h6 h7 h8, c2, if_neg (by simp), Option.bind_some,
    vOf_eq _ _ _ _ _ _ _ _ _ _ _ _ vF vF_big, vof_small h1 (by omega) h3 h4 h5 h6 h7 h8, c3, if_neg (by simp), Option.bind_some,
    vOf_eq _ _ _ _ _ _ _ _ _ _ _ _ vF vF_big, vof_small h1 (by omega) h3 h4 h5 h6 h7 h8, c4, if_neg (by simp), Option.bind_some]
  rw [if_pos]
  exact ⟨⟨rfl, rfl, rfl⟩, wV_mono h2 h3 h5 h8, wB_mono h2 h3 h5, hv.2, fun h => wV_cut hb.1 h, rfl, rfl, rfl, rfl, rfl, rfl⟩
end Go.Proofs.YtmofdacfijobdaaDoor.PrValueFalls
namespace Go.Proofs.YtmofdacfijobdaaDoor.Pr
open Go.RowKit Go.Proofs.YtmofdacfijobdaaDoor.EValueFalls Go.Proofs.YtmofdacfijobdaaDoorW.PrintWords Go.Proofs.YtmofdacfijobdaaDoorW.PrintLast Go.Proofs.YtmofdacfijobdaaDoorW.PrintMore Go.Proofs.YtmofdacfijobdaaDoorW.PrintOpen Go.Proofs.YtmofdacfijobdaaDoor.PrValueFalls
theorem ValueFalls : pledgelaw15_ValueFalls.Pure := by
  intro a0 a1 a2 a3 a4 a5 _ _ _ _ _ _
  unfold pledgelaw15_ValueFalls.f
  rw [first15_eq vF vF_big, Option.bind_some, if_pos rfl]
  have r0 := numW_rng a0 1000000 (by omega) (by omega)
  have r1 := numW_rng a1 1000000 (by omega) (by omega)
  have r2 := numW_rng a2 1000000 (by omega) (by omega)
  have r3 := numW_rng a3 3000000 (by omega) (by omega)
  have r4 := numW_rng a4 10001 (by omega) (by omega)
  have r5 := numW_rng a5 10001 (by omega) (by omega)
  rw [w64s (numW a0 1000000 + numW a1 1000000) (by omega) (by omega)]
  exact falls r0.1 (by omega) (by omega) r2.1 (by omega) r3.1 (by omega) r4.1 (by omega) r5.1 (by omega)
end Go.Proofs.YtmofdacfijobdaaDoor.Pr
