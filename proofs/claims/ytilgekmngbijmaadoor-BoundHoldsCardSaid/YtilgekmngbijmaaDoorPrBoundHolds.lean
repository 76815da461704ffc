/- Whatever is taken of the lots from one on costs at least what is told for what it is worth, and can be come to: the pure statement of BoundHolds, for all problems. Conditions: none beyond the statement's own. -/
import Derived.Test.YtilgekmngbijmaaDoorEBoundHoldsx
import Derived.Test.YtilgekmngbijmaaDoorOpen
namespace Go.Proofs.YtilgekmngbijmaaDoor.PrBoundHolds
open Go.RowKit Go.Proofs.YtilgekmngbijmaaDoor.EBoundHolds Go.Proofs.YtilgekmngbijmaaDoorW.PrintWords Go.Proofs.YtilgekmngbijmaaDoorW.PrintLast Go.Proofs.YtilgekmngbijmaaDoorW.PrintMore Go.Proofs.YtilgekmngbijmaaDoorW.PrintOpen
set_option linter.unusedSimpArgs false
set_option linter.unusedVariables false
theorem w64 (x : Int) (h1 : -9223372036854775808 ≤ x) (h2 : x ≤ 9223372036854775807) : wrap64 x = x := by unfold wrap64; omega
theorem w64s (x : Int) (h1 : -1000000000 ≤ x) (h2 : x ≤ 1000000000) : wrap64 x = x := by unfold wrap64; omega
theorem wu64 (n : Int) : IntKind.u64.wrap n = n % 18446744073709551616 := by simp [IntKind.wrap, IntKind.bits, IntKind.signed]
theorem rd_nat (l : List Int) (i : Nat) : rd l (i : Int) = l.getD i 0 := by unfold rd; rw [Int.toNat_natCast]
theorem rd_mem (l : List Int) (i : Nat) (h : i < l.length) : rd l (i : Int) ∈ l := by
  rw [rd_nat, List.getD_eq_getElem?_getD, List.getElem?_eq_getElem h]; exact List.getElem_mem h
theorem take_snoc_sum (l : List Int) (i : Nat) (h : i < l.length) : (l.take (i + 1)).sum = (l.take i).sum + rd l (i : Int) := by
  rw [List.take_succ_eq_append_getElem h, List.sum_append, rd_nat, List.getD_eq_getElem?_getD, List.getElem?_eq_getElem h]; simp
theorem and32 (x : Int) (h0 : 0 ≤ x) (h1 : x < 18446744073709551616) : Go.bits .and .u64 x 4294967295 = x % 4294967296 := by
  have := bits_mask .u64 64 (by decide) (fun n a b => by rw [wu64]; omega) 32 (by decide) x h0 (by omega)
  simpa using this
theorem pb (x y : Int) (hx : 0 ≤ x) (hx1 : x < 4294967296) (hy : 0 ≤ y) (hy1 : y < 4294967296) : 0 ≤ x * y ∧ x * y ≤ 18446744065119617025 := by
  refine ⟨Int.mul_nonneg hx hy, ?_⟩
  have := Int.mul_le_mul (show x ≤ 4294967295 by omega) (show y ≤ 4294967295 by omega) hy (by omega)
  omega
theorem split32 (a b : Int) : a * b = (a / 4294967296) * (b / 4294967296) * 18446744073709551616 + ((a / 4294967296) * (b % 4294967296) + (a % 4294967296) * (b / 4294967296)) * 4294967296 + (a % 4294967296) * (b % 4294967296) := by
  have h1 : a = (a / 4294967296) * 4294967296 + a % 4294967296 := by omega
  have h2 : b = (b / 4294967296) * 4294967296 + b % 4294967296 := by omega
  generalize a / 4294967296 = a1 at *
  generalize a % 4294967296 = a0 at *
  generalize b / 4294967296 = b1 at *
  generalize b % 4294967296 = b0 at *
  subst h1 h2
  grind
theorem Wide_eq (a b : Int) (ha0 : 0 ≤ a) (ha1 : a < 18446744073709551616) (hb0 : 0 ≤ b) (hb1 : b < 18446744073709551616) :
    fix_Wide.f a b = some (a * b / 18446744073709551616, a * b % 18446744073709551616) := by
  unfold fix_Wide.f
  simp only [wu64, and32 a ha0 ha1, and32 b hb0 hb1]
  have e := split32 a b
  obtain ⟨q1, q2⟩ := pb (a / 4294967296) (b / 4294967296) (by omega) (by omega) (by omega) (by omega)
  obtain ⟨q3, q4⟩ := pb (a / 4294967296) (b % 4294967296) (by omega) (by omega) (by omega) (by omega)
  obtain ⟨q5, q6⟩ := pb (a % 4294967296) (b / 4294967296) (by omega) (by omega) (by omega) (by omega)
  obtain ⟨q7, q8⟩ := pb (a % 4294967296) (b % 4294967296) (by omega) (by omega) (by omega) (by omega)
  generalize a / 4294967296 * (b / 4294967296) = p11 at *
  generalize a / 4294967296 * (b % 4294967296) = p10 at *
  generalize a % 4294967296 * (b / 4294967296) = p01 at *
  generalize a % 4294967296 * (b % 4294967296) = p00 at *
  generalize a * b = p at *
  rw [and32 _ (by omega) (by omega)]
  congr 2
  omega
def lenTab : ByteArray := ⟨#[0, 1, 2, 2, 3, 3, 3, 3, 4, 4, 4, 4, 4, 4, 4, 4, 5, 5, 5, 5, 5, 5, 5, 5, 5, 5, 5, 5, 5, 5, 5, 5, 6, 6, 6, 6, 6, 6, 6, 6, 6, 6, 6, 6, 6, 6, 6, 6, 6, 6, 6, 6, 6, 6, 6, 6, 6, 6, 6, 6, 6, 6, 6, 6, 7, 7, 7, 7, 7, 7, 7, 7, 7, 7, 7, 7, 7, 7, 7, 7, 7, 7, 7, 7, 7, 7, 7, 7, 7, 7, 7, 7, 7, 7, 7, 7, 7, 7, 7, 7, 7, 7, 7, 7, 7, 7, 7, 7, 7, 7, 7, 7, 7, 7, 7, 7, 7, 7, 7, 7, 7, 7, 7, 7, 7, 7, 7, 7, 8, 8, 8, 8, 8, 8, 8, 8, 8, 8, 8, 8, 8, 8, 8, 8, 8, 8, 8, 8, 8, 8, 8, 8, 8, 8, 8, 8, 8, 8, 8, 8, 8, 8, 8, 8, 8, 8, 8, 8, 8, 8, 8, 8, 8, 8, 8, 8, 8, 8, 8, 8, 8, 8, 8, 8, 8, 8, 8, 8, 8, 8, 8, 8, 8, 8, 8, 8, 8, 8, 8, 8, 8, 8, 8, 8, 8, 8, 8, 8, 8, 8, 8, 8, 8, 8, 8, 8, 8, 8, 8, 8, 8, 8, 8, 8, 8, 8, 8, 8, 8, 8, 8, 8, 8, 8, 8, 8, 8, 8, 8, 8, 8, 8, 8, 8, 8, 8, 8, 8, 8, 8, 8, 8, 8, 8, 8, 8]⟩
set_option maxRecDepth 100000 in
theorem lenTab_dec : ∀ j : Fin 256, 0 < (j : Nat) → (bt lenTab (j : Nat) = 1 ∧ 1 ≤ (j : Nat) ∧ (j : Nat) ≤ 1) ∨ (bt lenTab (j : Nat) = 2 ∧ 2 ≤ (j : Nat) ∧ (j : Nat) ≤ 3) ∨ (bt lenTab (j : Nat) = 3 ∧ 4 ≤ (j : Nat) ∧ (j : Nat) ≤ 7) ∨ (bt lenTab (j : Nat) = 4 ∧ 8 ≤ (j : Nat) ∧ (j : Nat) ≤ 15) ∨ (bt lenTab (j : Nat) = 5 ∧ 16 ≤ (j : Nat) ∧ (j : Nat) ≤ 31) ∨ (bt lenTab (j : Nat) = 6 ∧ 32 ≤ (j : Nat) ∧ (j : Nat) ≤ 63) ∨ (bt lenTab (j : Nat) = 7 ∧ 64 ≤ (j : Nat) ∧ (j : Nat) ≤ 127) ∨ (bt lenTab (j : Nat) = 8 ∧ 128 ≤ (j : Nat) ∧ (j : Nat) ≤ 255) := by decide
theorem lenTab_spec (i : Int) (h0 : 0 < i) (h1 : i < 256) : (bt lenTab i = 1 ∧ 1 ≤ i ∧ i ≤ 1) ∨ (bt lenTab i = 2 ∧ 2 ≤ i ∧ i ≤ 3) ∨ (bt lenTab i = 3 ∧ 4 ≤ i ∧ i ≤ 7) ∨ (bt lenTab i = 4 ∧ 8 ≤ i ∧ i ≤ 15) ∨ (bt lenTab i = 5 ∧ 16 ≤ i ∧ i ≤ 31) ∨ (bt lenTab i = 6 ∧ 32 ≤ i ∧ i ≤ 63) ∨ (bt lenTab i = 7 ∧ 64 ≤ i ∧ i ≤ 127) ∨ (bt lenTab i = 8 ∧ 128 ≤ i ∧ i ≤ 255) := by
  obtain ⟨n, rfl⟩ := Int.eq_ofNat_of_zero_le (show 0 ≤ i by omega)
  have := lenTab_dec ⟨n, by omega⟩ (by show 0 < n; omega)
  simp only at this
  omega
theorem wadd (n a t : Int) (n0 : 0 ≤ n) (n1 : n ≤ 32) (a0 : 0 ≤ a) (a1 : a ≤ 24) (t0 : 1 ≤ t) (t1 : t ≤ 8) : wrap64 ((wrap64 (n + a)) + (wrap64 t)) = n + (a + t) := by
  rw [w64 (n + a) (by omega) (by omega), w64 t (by omega) (by omega), w64 _ (by omega) (by omega)]; omega
theorem Len_j0 (k : Nat) (x n : Int) (hx : 0 < x) (hx1 : x < 4294967296) (hn0 : 0 ≤ n) (hn1 : n ≤ 32) :
    ∃ L : Nat, bits_Len64.j0 (k + 1) x n = some (n + L) ∧ 1 ≤ L ∧ L ≤ 32 ∧ (2 : Int) ^ (L - 1) ≤ x ∧ x < (2 : Int) ^ L := by
  have key : ∀ (i a : Int) (b : Nat), 0 < i → i < 256 → a = (b : Int) → b ≤ 24 → x / (2 : Int) ^ b = i →
      ∃ L : Nat, (some (wrap64 ((wrap64 (n + a)) + (wrap64 (bt lenTab i)))) : Option Int) = some (n + L) ∧ 1 ≤ L ∧ L ≤ b + 8 ∧ (2 : Int) ^ (L - 1) ≤ x ∧ x < (2 : Int) ^ L := by
    intro i a b h0 h1 ha hb hi
    have hp : 0 < (2 : Int) ^ b := Int.pow_pos (by decide)
    have e1 : i * (2 : Int) ^ b ≤ x := by rw [← hi]; exact Int.ediv_mul_le _ (by omega)
    have e2 : x < (i + 1) * (2 : Int) ^ b := by rw [← hi]; exact Int.lt_ediv_add_one_mul_self _ hp
    have sp := lenTab_spec i h0 h1
    generalize bt lenTab i = tv at sp ⊢
    have fin : ∀ t : Nat, tv = t → 1 ≤ t → t ≤ 8 → (2 : Int) ^ (t - 1) ≤ i → i + 1 ≤ (2 : Int) ^ t →
        ∃ L : Nat, (some (wrap64 ((wrap64 (n + a)) + (wrap64 tv))) : Option Int) = some (n + L) ∧ 1 ≤ L ∧ L ≤ b + 8 ∧ (2 : Int) ^ (L - 1) ≤ x ∧ x < (2 : Int) ^ L := by
      clear sp
      intro t ht t1 t8 g0 g1
      refine ⟨b + t, ?_, by omega, by omega, ?_, ?_⟩
      · subst ht
        rw [wadd n a t hn0 hn1 (by rw [ha]; exact Int.natCast_nonneg _) (by rw [ha]; exact_mod_cast hb) (by exact_mod_cast t1) (by exact_mod_cast t8), ha]
        rfl
      · rw [show b + t - 1 = (t - 1) + b by omega, Int.pow_add]
        exact Int.le_trans (Int.mul_le_mul_of_nonneg_right g0 (by omega)) e1
      · rw [show b + t = t + b by omega, Int.pow_add]
        exact Int.lt_of_lt_of_le e2 (Int.mul_le_mul_of_nonneg_right g1 (by omega))
    rcases sp with h | h | h | h | h | h | h | h
    · exact fin 1 h.1 (by omega) (by omega) (by simp; omega) (by simp; omega)
    · exact fin 2 h.1 (by omega) (by omega) (by simp; omega) (by simp; omega)
    · exact fin 3 h.1 (by omega) (by omega) (by simp; omega) (by simp; omega)
    · exact fin 4 h.1 (by omega) (by omega) (by simp; omega) (by simp; omega)
    · exact fin 5 h.1 (by omega) (by omega) (by simp; omega) (by simp; omega)
    · exact fin 6 h.1 (by omega) (by omega) (by simp; omega) (by simp; omega)
    · exact fin 7 h.1 (by omega) (by omega) (by simp; omega) (by simp; omega)
    · exact fin 8 h.1 (by omega) (by omega) (by simp; omega) (by simp; omega)
  rw [bits_Len64.j0]
  by_cases c1 : x ≥ 65536
  · rw [if_pos c1]
    by_cases c2 : x / 65536 ≥ 256
    · rw [if_pos c2, if_pos (by omega), if_pos (by omega)]
      obtain ⟨L, e, l1, l2, l3, l4⟩ := key (x / 65536 / 256 % 256) 24 24 (by omega) (by omega) rfl (by omega) (by omega)
      refine ⟨L, ?_, l1, by omega, l3, l4⟩
      rw [← e]
      have : wrap64 (wrap64 (n + 16) + 8) = wrap64 (n + 24) := by unfold wrap64; omega
      rw [this]
      rfl
    · rw [if_neg c2, if_pos (by omega), if_pos (by omega)]
      obtain ⟨L, e, l1, l2, l3, l4⟩ := key (x / 65536 % 256) 16 16 (by omega) (by omega) rfl (by omega) (by omega)
      exact ⟨L, e, l1, by omega, l3, l4⟩
  · rw [if_neg c1]
    by_cases c2 : x ≥ 256
    · rw [if_pos c2, if_pos (by omega), if_pos (by omega)]
      obtain ⟨L, e, l1, l2, l3, l4⟩ := key (x / 256 % 256) 8 8 (by omega) (by omega) rfl (by omega) (by omega)
      exact ⟨L, e, l1, by omega, l3, l4⟩
    · rw [if_neg c2, if_pos (by omega), if_pos (by omega)]
      obtain ⟨L, e, l1, l2, l3, l4⟩ := key (x % 256) 0 0 (by omega) (by omega) rfl (by omega) (by omega)
      refine ⟨L, ?_, l1, by omega, l3, l4⟩
      rw [← e]
      have : n = wrap64 (n + 0) := by unfold wrap64; omega
      rw [← this]
      rfl
theorem Len_eq (k : Nat) (x : Int) (hx : 0 < x) (hx1 : x < 18446744073709551616) :
    ∃ L : Nat, bits_Len64.f (k + 1) x = some (L : Int) ∧ 1 ≤ L ∧ L ≤ 64 ∧ (2 : Int) ^ (L - 1) ≤ x ∧ x < (2 : Int) ^ L := by
  unfold bits_Len64.f
  by_cases c : x ≥ 4294967296
  · rw [if_pos c]
    obtain ⟨L, e, l1, l2, l3, l4⟩ := Len_j0 k (x / 4294967296) 32 (by omega) (by omega) (by omega) (by omega)
    refine ⟨32 + L, by rw [e]; simp, by omega, by omega, ?_, ?_⟩
    · rw [show 32 + L - 1 = (L - 1) + 32 by omega, Int.pow_add]
      have : (2 : Int) ^ (L - 1) * 4294967296 ≤ x / 4294967296 * 4294967296 := Int.mul_le_mul_of_nonneg_right l3 (by omega)
      have h32 : (2 : Int) ^ 32 = 4294967296 := by decide
      rw [h32]; omega
    · rw [show 32 + L = L + 32 by omega, Int.pow_add]
      have : (x / 4294967296 + 1) * 4294967296 ≤ (2 : Int) ^ L * 4294967296 := Int.mul_le_mul_of_nonneg_right (by omega) (by omega)
      have h32 : (2 : Int) ^ 32 = 4294967296 := by decide
      rw [h32]; omega
  · rw [if_neg c]
    obtain ⟨L, e, l1, l2, l3, l4⟩ := Len_j0 k x 0 hx (by omega) (by omega) (by omega)
    exact ⟨L, by rw [e]; simp, l1, by omega, l3, l4⟩
/-- The digit's loops: what a guess q of the quotient of n = U * 2^32 + u by y = a * 2^32 + b tells. -/
structure Guess (U u a b q r : Int) : Prop where
  e : r = U - q * a
  r0 : 0 ≤ r
  r1 : r < 4294967296
  lo : (U * 4294967296 + u) / (a * 4294967296 + b) ≤ q
  hi : q ≤ 4294967297
structure Div32 (U u a b : Int) : Prop where
  a0 : 2147483648 ≤ a
  a1 : a < 4294967296
  b0 : 0 ≤ b
  b1 : b < 4294967296
  u0 : 0 ≤ u
  u1 : u < 4294967296
  U0 : 0 ≤ U
  U1 : U < a * 4294967296 + b
theorem Guess.key {U u a b q r : Int} (g : Guess U u a b q r) : U * 4294967296 + u - q * (a * 4294967296 + b) = r * 4294967296 + u - q * b := by
  rw [g.e]; grind
/-- A guess that passes the test is the digit. -/
theorem Guess.done {U u a b q r : Int} (d : Div32 U u a b) (g : Guess U u a b q r) (h : q * b ≤ r * 4294967296 + u) : q = (U * 4294967296 + u) / (a * 4294967296 + b) := by
  have hk := g.key
  have hy : 0 < a * 4294967296 + b := by have := d.a0; have := d.b0; omega
  have : q ≤ (U * 4294967296 + u) / (a * 4294967296 + b) := (Int.le_ediv_iff_mul_le hy).2 (by omega)
  exact Int.le_antisymm this g.lo
/-- One that fails it is too great. -/
theorem Guess.fails {U u a b q r : Int} (d : Div32 U u a b) (g : Guess U u a b q r) (h : 4294967296 ≤ q ∨ r * 4294967296 + u < q * b) : (U * 4294967296 + u) / (a * 4294967296 + b) ≤ q - 1 := by
  have hk := g.key
  have hy : 0 < a * 4294967296 + b := by have := d.a0; have := d.b0; omega
  have : (U * 4294967296 + u) / (a * 4294967296 + b) < q := by
    rcases h with h | h
    · have h1 : (U * 4294967296 + u) / (a * 4294967296 + b) < 4294967296 := (Int.ediv_lt_iff_lt_mul hy).2 (by have := d.U1; have := d.u1; omega)
      omega
    · exact (Int.ediv_lt_iff_lt_mul hy).2 (by omega)
  omega
/-- The last guess, where what is left would be beyond a digit. -/
theorem Guess.over {U u a b q r : Int} (d : Div32 U u a b) (g : Guess U u a b q r) (h : 4294967296 ≤ q ∨ r * 4294967296 + u < q * b) (hr : 4294967296 ≤ r + a) :
    q - 1 = (U * 4294967296 + u) / (a * 4294967296 + b) := by
  have h1 := g.fails d h
  have hk := g.key
  have hy : 0 < a * 4294967296 + b := by have := d.a0; have := d.b0; omega
  have hb : (q - 1) * b ≤ 18446744073709551616 - 4294967296 := by
    have h2 : q - 1 ≤ 4294967296 := by have := g.hi; omega
    have h3 : (q - 1) * b ≤ 4294967296 * b := Int.mul_le_mul_of_nonneg_right h2 d.b0
    have := d.b1; omega
  have e : (q - 1) * (a * 4294967296 + b) = q * (a * 4294967296 + b) - a * 4294967296 - b := by grind
  have e2 : (q - 1) * b = q * b - b := by grind
  have : q - 1 ≤ (U * 4294967296 + u) / (a * 4294967296 + b) := (Int.le_ediv_iff_mul_le hy).2 (by have := d.u0; omega)
  omega
theorem Guess.next {U u a b q r : Int} (d : Div32 U u a b) (g : Guess U u a b q r) (h : 4294967296 ≤ q ∨ r * 4294967296 + u < q * b) (hr : r + a < 4294967296) : Guess U u a b (q - 1) (r + a) :=
  ⟨by rw [g.e]; grind, by have := g.r0; have := d.a0; omega, hr, g.fails d h, by have := g.hi; omega⟩
theorem Guess.first {U u a b : Int} (d : Div32 U u a b) : Guess U u a b (U / a) (U - U / a * a) := by
  have ha : 0 < a := by have := d.a0; omega
  have h1 : U - U / a * a = U % a := by have := Int.emod_def U a; rw [this]; grind
  have hy : 0 < a * 4294967296 + b := by have := d.a0; have := d.b0; omega
  refine ⟨rfl, by rw [h1]; exact Int.emod_nonneg _ (by omega), by rw [h1]; have := Int.emod_lt_of_pos U ha; have := d.a1; omega, ?_, ?_⟩
  · have h2 : (U * 4294967296 + u) / (a * 4294967296 + b) < U / a + 1 := by
      refine (Int.ediv_lt_iff_lt_mul hy).2 ?_
      have h3 : U < (U / a + 1) * a := Int.lt_ediv_add_one_mul_self U ha
      have h4 : 0 ≤ U / a := Int.ediv_nonneg d.U0 (by omega)
      have h5 : 0 ≤ (U / a + 1) * b := Int.mul_nonneg (by omega) d.b0
      have h6 : (U / a + 1) * (a * 4294967296 + b) = (U / a + 1) * a * 4294967296 + (U / a + 1) * b := by grind
      have := d.u1
      omega
    omega
  · have h2 : U / a < 4294967298 := by
      refine (Int.ediv_lt_iff_lt_mul ha).2 ?_
      have := d.U1; have := d.b1; have := d.a0
      omega
    omega
theorem qb_small {U u a b q r : Int} (d : Div32 U u a b) (g : Guess U u a b q r) (hq : ¬ q ≥ 4294967296) : 0 ≤ q ∧ 0 ≤ q * b ∧ q * b ≤ 18446744065119617025 := by
  have hy : 0 < a * 4294967296 + b := by have := d.a0; have := d.b0; omega
  have h0 : 0 ≤ q := Int.le_trans (Int.ediv_nonneg (by have := d.U0; have := d.u0; omega) (by omega)) g.lo
  exact ⟨h0, pb q b h0 (by omega) d.b0 d.b1⟩
/-- The first digit's loop. -/
theorem l0_digit (y s a b U u un0 : Int) (d : Div32 U u a b) : ∀ (n k : Nat) (q r : Int), (4294967296 - r) ≤ n * a → n * 2 + 2 ≤ k → Guess U u a b q r →
    ∃ k', k - (n * 2 + 2) ≤ k' ∧ bits_Div64.l0 k y s a b U u un0 q r = bits_Div64.j2 k' y s a b U u un0 ((U * 4294967296 + u) / (a * 4294967296 + b)) := by
  intro n
  induction n with
  | zero =>
    intro k q r h1 h2 g
    have := g.r1
    omega
  | succ n ih =>
    intro k q r h1 h2 g
    obtain ⟨k, rfl⟩ : ∃ m, k = m + 1 := ⟨k - 1, by omega⟩
    have hr0 := g.r0
    have hr1 := g.r1
    have hu0 := d.u0
    have hu1 := d.u1
    have ha0 := d.a0
    have ha1 := d.a1
    have hghi := g.hi
    have w1 : IntKind.u64.wrap (IntKind.u64.wrap (4294967296 * r) + u) = r * 4294967296 + u := by rw [wu64, wu64]; omega
    have w2 : IntKind.u64.wrap (r + a) = r + a := by rw [wu64]; omega
    have fail : (4294967296 ≤ q ∨ r * 4294967296 + u < q * b) → 1 ≤ q → ∃ k', k + 1 - ((n + 1) * 2 + 2) ≤ k' ∧ bits_Div64.j1 k y s a b U u un0 q r true = bits_Div64.j2 k' y s a b U u un0 ((U * 4294967296 + u) / (a * 4294967296 + b)) := by
      intro hf hq1
      obtain ⟨k, rfl⟩ : ∃ m, k = m + 1 := ⟨k - 1, by omega⟩
      have w3 : IntKind.u64.wrap (q - 1) = q - 1 := by rw [wu64]; omega
      rw [bits_Div64.j1]
      simp only [if_true]
      rw [w2, w3]
      by_cases ho : r + a ≥ 4294967296
      · rw [if_pos ho, g.over d hf ho]
        exact ⟨k, by omega, rfl⟩
      · rw [if_neg ho]
        have e : ((n + 1 : Nat) : Int) * a = n * a + a := by rw [Int.natCast_add]; grind
        obtain ⟨k', hk', ek⟩ := ih k (q - 1) (r + a) (by omega) (by omega) (g.next d hf (by omega))
        exact ⟨k', by omega, ek⟩
    rw [bits_Div64.l0]
    by_cases hq : q ≥ 4294967296
    · rw [if_pos hq]
      exact fail (.inl hq) (by omega)
    · rw [if_neg hq]
      obtain ⟨q0, qb0, qb1⟩ := qb_small d g hq
      have w4 : IntKind.u64.wrap (q * b) = q * b := by rw [wu64]; omega
      rw [w1, w4]
      by_cases hf : q * b > r * 4294967296 + u
      · rw [decide_eq_true hf]
        refine fail (.inr (by omega)) ?_
        rcases Decidable.em (1 ≤ q) with h | h
        · exact h
        · exfalso
          have : q = 0 := by omega
          subst this
          omega
      · rw [decide_eq_false hf]
        obtain ⟨k, rfl⟩ : ∃ m, k = m + 1 := ⟨k - 1, by omega⟩
        rw [bits_Div64.j1]
        simp only [Bool.false_eq_true, if_false]
        rw [g.done d (by omega)]
        exact ⟨k, by omega, rfl⟩
/-- The second digit's loop, and what is handed back. -/
theorem l1_digit (y s a b U u q1 un21 : Int) (d : Div32 U u a b) (hs : 0 ≤ s) : ∀ (n k : Nat) (q r : Int), (4294967296 - r) ≤ n * a → n * 2 + 2 ≤ k → Guess U u a b q r →
    bits_Div64.l1 k y s a b u q1 r un21 q = some (IntKind.u64.wrap ((IntKind.u64.wrap (q1 * 4294967296)) + (U * 4294967296 + u) / (a * 4294967296 + b)), shr .u64 (IntKind.u64.wrap ((IntKind.u64.wrap ((IntKind.u64.wrap (un21 * 4294967296)) + u)) - (IntKind.u64.wrap ((U * 4294967296 + u) / (a * 4294967296 + b) * y)))) s) := by
  intro n
  induction n with
  | zero =>
    intro k q r h1 h2 g
    have := g.r1
    omega
  | succ n ih =>
    intro k q r h1 h2 g
    obtain ⟨k, rfl⟩ : ∃ m, k = m + 1 := ⟨k - 1, by omega⟩
    have hr0 := g.r0
    have hr1 := g.r1
    have hu0 := d.u0
    have hu1 := d.u1
    have ha0 := d.a0
    have ha1 := d.a1
    have hghi := g.hi
    have w1 : IntKind.u64.wrap (IntKind.u64.wrap (4294967296 * r) + u) = r * 4294967296 + u := by rw [wu64, wu64]; omega
    have w2 : IntKind.u64.wrap (r + a) = r + a := by rw [wu64]; omega
    have fail : (4294967296 ≤ q ∨ r * 4294967296 + u < q * b) → 1 ≤ q → bits_Div64.j4 k y s a b u q1 r un21 q true = some (IntKind.u64.wrap ((IntKind.u64.wrap (q1 * 4294967296)) + (U * 4294967296 + u) / (a * 4294967296 + b)), shr .u64 (IntKind.u64.wrap ((IntKind.u64.wrap ((IntKind.u64.wrap (un21 * 4294967296)) + u)) - (IntKind.u64.wrap ((U * 4294967296 + u) / (a * 4294967296 + b) * y)))) s) := by
      intro hf hq1
      obtain ⟨k, rfl⟩ : ∃ m, k = m + 1 := ⟨k - 1, by omega⟩
      have w3 : IntKind.u64.wrap (q - 1) = q - 1 := by rw [wu64]; omega
      rw [bits_Div64.j4]
      simp only [if_true]
      rw [w2, w3]
      by_cases ho : r + a ≥ 4294967296
      · rw [if_pos ho, if_pos hs, g.over d hf ho]
      · rw [if_neg ho]
        have e : ((n + 1 : Nat) : Int) * a = n * a + a := by rw [Int.natCast_add]; grind
        exact ih k (q - 1) (r + a) (by omega) (by omega) (g.next d hf (by omega))
    rw [bits_Div64.l1]
    by_cases hq : q ≥ 4294967296
    · rw [if_pos hq]
      exact fail (.inl hq) (by omega)
    · rw [if_neg hq]
      obtain ⟨q0, qb0, qb1⟩ := qb_small d g hq
      have w4 : IntKind.u64.wrap (q * b) = q * b := by rw [wu64]; omega
      rw [w1, w4]
      by_cases hf : q * b > r * 4294967296 + u
      · rw [decide_eq_true hf]
        refine fail (.inr (by omega)) ?_
        rcases Decidable.em (1 ≤ q) with h | h
        · exact h
        · exfalso
          have : q = 0 := by omega
          subst this
          omega
      · rw [decide_eq_false hf]
        obtain ⟨k, rfl⟩ : ∃ m, k = m + 1 := ⟨k - 1, by omega⟩
        rw [bits_Div64.j4]
        simp only [Bool.false_eq_true, if_false]
        rw [g.done d (by omega), if_pos hs]
/-- Two digits: the quotient of U * 2^64 + u1 * 2^32 + u0 by y, where y has its highest bit. -/
theorem two_digits (y s a b U u1 u0 : Int) (hy : y = a * 4294967296 + b) (d : Div32 U u1 a b) (h0 : 0 ≤ u0) (h1 : u0 < 4294967296) (hs : 0 ≤ s) (k : Nat) (hk : 20 < k) :
    ∃ Q R, bits_Div64.l0 k y s a b U u1 u0 (U / a) (U - U / a * a) = some (Q, shr .u64 R s) ∧ U * 18446744073709551616 + u1 * 4294967296 + u0 = Q * y + R ∧ 0 ≤ R ∧ R < y ∧ 0 ≤ Q := by
  have ha0 := d.a0
  have ha1 := d.a1
  have hb0 := d.b0
  have hb1 := d.b1
  have hyp : 0 < y := by omega
  have hU0 := d.U0
  have hU1 := d.U1
  have hu0 := d.u0
  have hu1 := d.u1
  have g := Guess.first d
  have gr0 := g.r0
  obtain ⟨k', hk', e⟩ := l0_digit y s a b U u1 u0 d 2 k (U / a) (U - U / a * a) (by omega) (by omega) g
  rw [e]
  obtain ⟨k', rfl⟩ : ∃ m, k' = m + 1 := ⟨k' - 1, by omega⟩
  rw [bits_Div64.j2, if_neg (by omega)]
  have hn : 0 ≤ U * 4294967296 + u1 := by omega
  have q1lt : (U * 4294967296 + u1) / y < 4294967296 := (Int.ediv_lt_iff_lt_mul hyp).2 (by omega)
  have q10 : 0 ≤ (U * 4294967296 + u1) / y := Int.ediv_nonneg hn (by omega)
  have em := Int.emod_def (U * 4294967296 + u1) y
  have er0 : 0 ≤ (U * 4294967296 + u1) % y := Int.emod_nonneg _ (by omega)
  have er1 : (U * 4294967296 + u1) % y < y := Int.emod_lt_of_pos _ hyp
  have ey : y * ((U * 4294967296 + u1) / y) = (U * 4294967296 + u1) / y * y := Int.mul_comm _ _
  rw [ey] at em
  rw [← hy]
  generalize hQ1 : (U * 4294967296 + u1) / y = q1 at *
  generalize hV : (U * 4294967296 + u1) % y = V at *
  have wV : IntKind.u64.wrap ((IntKind.u64.wrap ((IntKind.u64.wrap (U * 4294967296)) + u1)) - (IntKind.u64.wrap (q1 * y))) = V := by
    simp only [wu64]
    generalize q1 * y = p at *
    omega
  rw [wV]
  have hap : 0 < a := by omega
  have va0 : 0 ≤ V / a := Int.ediv_nonneg er0 (by omega)
  have va1 : V / a * a ≤ V := Int.ediv_mul_le _ (by omega)
  have va2 : 0 ≤ V / a * a := Int.mul_nonneg va0 (by omega)
  have va3 : V / a ≤ V := Int.ediv_le_self _ er0
  have wt : IntKind.u64.wrap (Int.tdiv V a) = V / a := by
    rw [wu64, Int.tdiv_eq_ediv_of_nonneg er0]; omega
  rw [wt]
  have wm : IntKind.u64.wrap (V / a * a) = V / a * a := by rw [wu64]; omega
  have wr : IntKind.u64.wrap (V - V / a * a) = V - V / a * a := by rw [wu64]; omega
  rw [wm, wr]
  have d2 : Div32 V u0 a b := ⟨ha0, ha1, hb0, hb1, h0, h1, er0, by omega⟩
  have g2 := Guess.first d2
  have gr2 := g2.r0
  rw [l1_digit y s a b V u0 q1 V d2 hs 2 k' (V / a) (V - V / a * a) (by omega) (by omega) g2, ← hy]
  have n2 : 0 ≤ V * 4294967296 + u0 := by omega
  have q2lt : (V * 4294967296 + u0) / y < 4294967296 := (Int.ediv_lt_iff_lt_mul hyp).2 (by omega)
  have q20 : 0 ≤ (V * 4294967296 + u0) / y := Int.ediv_nonneg n2 (by omega)
  have em2 := Int.emod_def (V * 4294967296 + u0) y
  have fr0 : 0 ≤ (V * 4294967296 + u0) % y := Int.emod_nonneg _ (by omega)
  have fr1 : (V * 4294967296 + u0) % y < y := Int.emod_lt_of_pos _ hyp
  have ey2 : y * ((V * 4294967296 + u0) / y) = (V * 4294967296 + u0) / y * y := Int.mul_comm _ _
  rw [ey2] at em2
  generalize (V * 4294967296 + u0) / y = q2 at *
  generalize (V * 4294967296 + u0) % y = R at *
  have wR : IntKind.u64.wrap ((IntKind.u64.wrap ((IntKind.u64.wrap (V * 4294967296)) + u0)) - (IntKind.u64.wrap (q2 * y))) = R := by
    simp only [wu64]
    generalize q2 * y = p at *
    omega
  have wQ : IntKind.u64.wrap ((IntKind.u64.wrap (q1 * 4294967296)) + q2) = q1 * 4294967296 + q2 := by simp only [wu64]; omega
  rw [wR, wQ]
  refine ⟨_, _, rfl, ?_, fr0, fr1, by omega⟩
  have e3 : (q1 * 4294967296 + q2) * y = q1 * y * 4294967296 + q2 * y := by grind
  rw [e3]
  generalize q2 * y = p2 at *
  generalize q1 * y = p1 at *
  omega
theorem Div64_eq (hi lo y : Int) (h0 : 0 ≤ hi) (h1 : hi < y) (l0 : 0 ≤ lo) (l1 : lo < 18446744073709551616) (y1 : y < 18446744073709551616) (k : Nat) (hk : 30 < k) :
    bits_Div64.f k hi lo y = some ((hi * 18446744073709551616 + lo) / y, (hi * 18446744073709551616 + lo) % y) := by
  unfold bits_Div64.f
  rw [if_neg (by omega), if_neg (by omega)]
  have hy : 0 < y := by omega
  by_cases hz : hi = 0
  · rw [if_pos hz, hz]
    have q0 : 0 ≤ lo / y := Int.ediv_nonneg l0 (by omega)
    have q1 : lo / y ≤ lo := Int.ediv_le_self _ l0
    rw [wu64, Int.tdiv_eq_ediv_of_nonneg l0, Int.tmod_eq_emod_of_nonneg l0]
    have e : (lo / y) % 18446744073709551616 = lo / y := by omega
    rw [e]; simp
  · rw [if_neg hz]
    obtain ⟨k, rfl⟩ : ∃ m, k = m + 1 := ⟨k - 1, by omega⟩
    obtain ⟨L, eL, L1, L64, p1, p2⟩ := Len_eq k y hy y1
    unfold bits_LeadingZeros64.f
    rw [eL]
    simp only [Option.bind_some]
    have ws : IntKind.u64.wrap (wrap64 (64 - (L : Int))) = ((64 - L : Nat) : Int) := by rw [wu64]; unfold wrap64; omega
    have ws2 : IntKind.u64.wrap (64 - ((64 - L : Nat) : Int)) = (L : Int) := by rw [wu64]; omega
    rw [ws, ws2, if_pos (by omega), if_pos (by omega)]
    have esl : ∀ x : Int, shl .u64 x ((64 - L : Nat) : Int) = (x * 2 ^ (64 - L)) % 18446744073709551616 := fun x => by
      unfold shl
      rw [wu64, Int.toNat_natCast, show min (64 - L) IntKind.u64.bits = 64 - L from Nat.min_eq_left (by show 64 - L ≤ 64; omega)]
    have esr : ∀ x : Int, shr .u64 x (L : Int) = x / 2 ^ L := fun x => by
      unfold shr
      rw [Int.toNat_natCast, show min L IntKind.u64.bits = L from Nat.min_eq_left L64]
    have esr2 : ∀ x : Int, shr .u64 x ((64 - L : Nat) : Int) = x / 2 ^ (64 - L) := fun x => by
      unfold shr
      rw [Int.toNat_natCast, show min (64 - L) IntKind.u64.bits = 64 - L from Nat.min_eq_left (by show 64 - L ≤ 64; omega)]
    have hD : (0 : Int) < 2 ^ (64 - L) := Int.pow_pos (by decide)
    have hE : (0 : Int) < 2 ^ L := Int.pow_pos (by decide)
    have hDE : (2 : Int) ^ L * 2 ^ (64 - L) = 18446744073709551616 := by
      rw [← Int.pow_add, show L + (64 - L) = 64 by omega]; decide
    have hDE2 : (2 : Int) ^ (L - 1) * 2 ^ (64 - L) = 9223372036854775808 := by
      rw [← Int.pow_add, show L - 1 + (64 - L) = 63 by omega]; decide
    have hor : ∀ x z : Int, 0 ≤ x → x % 2 ^ (64 - L) = 0 → x < 18446744073709551616 → 0 ≤ z → z < 2 ^ (64 - L) → z < 18446744073709551616 → Go.bits .or .u64 x z = x + z := fun x z a1 a2 a3 a4 a5 a6 =>
      bits_join .u64 64 (by decide) (fun n a b => by rw [wu64]; omega) (64 - L) x z a1 a2 (by omega) a4 a5 (by omega)
    simp only [esl, esr]
    generalize hDd : (2 : Int) ^ (64 - L) = D at *
    generalize hEd : (2 : Int) ^ L = E at *
    generalize (2 : Int) ^ (L - 1) = E2 at *
    have yD1 : y * D < 18446744073709551616 := by
      rw [← hDE]; exact Int.mul_lt_mul_of_pos_right p2 hD
    have yD0 : 9223372036854775808 ≤ y * D := by
      rw [← hDE2]; exact Int.mul_le_mul_of_nonneg_right p1 (by omega)
    have ey : y * D % 18446744073709551616 = y * D := by omega
    rw [ey]
    have hD1 : hi * D ≤ (y - 1) * D := Int.mul_le_mul_of_nonneg_right (by omega) (by omega)
    have hD2 : (y - 1) * D = y * D - D := by grind
    have hD0 : 0 ≤ hi * D := Int.mul_nonneg h0 (by omega)
    have ehi : hi * D % 18446744073709551616 = hi * D := by omega
    rw [ehi]
    have lE0 : 0 ≤ lo / E := Int.ediv_nonneg l0 (by omega)
    have lE1 : lo / E < D := (Int.ediv_lt_iff_lt_mul hE).2 (by rw [Int.mul_comm, hDE]; exact l1)
    have elo : lo * D / 18446744073709551616 = lo / E := by
      rw [← hDE]; exact Int.mul_ediv_mul_of_pos_left lo E hD
    rw [hor (hi * D) (lo / E) hD0 (Int.mul_emod_left _ _) (by omega) lE0 lE1 (by omega), and32 (y * D) (by omega) (by omega), and32 _ (by omega) (by omega)]
    have lD0 : 0 ≤ lo * D := Int.mul_nonneg l0 (by omega)
    rw [if_neg (by omega)]
    have d : Div32 (hi * D + lo / E) (lo * D % 18446744073709551616 / 4294967296) (y * D / 4294967296) (y * D % 4294967296) := ⟨by omega, by omega, by omega, by omega, by omega, by omega, by omega, by omega⟩
    have hap : 0 < y * D / 4294967296 := by omega
    have U0 : 0 ≤ hi * D + lo / E := by omega
    have ua0 : 0 ≤ (hi * D + lo / E) / (y * D / 4294967296) := Int.ediv_nonneg U0 (by omega)
    have ua1 : (hi * D + lo / E) / (y * D / 4294967296) * (y * D / 4294967296) ≤ hi * D + lo / E := Int.ediv_mul_le _ (by omega)
    have ua2 : 0 ≤ (hi * D + lo / E) / (y * D / 4294967296) * (y * D / 4294967296) := Int.mul_nonneg ua0 (by omega)
    have ua3 : (hi * D + lo / E) / (y * D / 4294967296) ≤ hi * D + lo / E := Int.ediv_le_self _ U0
    have wt : IntKind.u64.wrap (Int.tdiv (hi * D + lo / E) (y * D / 4294967296)) = (hi * D + lo / E) / (y * D / 4294967296) := by
      rw [wu64, Int.tdiv_eq_ediv_of_nonneg U0]; omega
    rw [wt]
    have wm : IntKind.u64.wrap ((hi * D + lo / E) / (y * D / 4294967296) * (y * D / 4294967296)) = (hi * D + lo / E) / (y * D / 4294967296) * (y * D / 4294967296) := by rw [wu64]; omega
    have wr : IntKind.u64.wrap (hi * D + lo / E - (hi * D + lo / E) / (y * D / 4294967296) * (y * D / 4294967296)) = hi * D + lo / E - (hi * D + lo / E) / (y * D / 4294967296) * (y * D / 4294967296) := by rw [wu64]; omega
    rw [wm, wr]
    obtain ⟨Q, R, e, eQ, R0, R1, Q0⟩ := two_digits (y * D) ((64 - L : Nat) : Int) (y * D / 4294967296) (y * D % 4294967296) (hi * D + lo / E) (lo * D % 18446744073709551616 / 4294967296) (lo * D % 18446744073709551616 % 4294967296) (by omega) d (by omega) (by omega) (by omega) (k + 1) (by omega)
    rw [e, esr2]
    have hN : (hi * 18446744073709551616 + lo) * D = Q * (y * D) + R := by
      rw [← eQ]
      have e1 : (hi * 18446744073709551616 + lo) * D = hi * D * 18446744073709551616 + lo * D := by grind
      rw [e1]
      generalize hi * D = x at *
      generalize lo * D = z at *
      omega
    have hR : R = (hi * 18446744073709551616 + lo - Q * y) * D := by
      have : (hi * 18446744073709551616 + lo - Q * y) * D = (hi * 18446744073709551616 + lo) * D - Q * (y * D) := by grind
      rw [this, hN]; omega
    generalize hr : hi * 18446744073709551616 + lo - Q * y = r at *
    have r0 : 0 ≤ r := by
      rcases Decidable.em (0 ≤ r) with h | h
      · exact h
      · exfalso
        have : r * D ≤ (-1) * D := Int.mul_le_mul_of_nonneg_right (by omega) (by omega)
        omega
    have r1 : r < y := by
      rcases Decidable.em (r < y) with h | h
      · exact h
      · exfalso
        have : y * D ≤ r * D := Int.mul_le_mul_of_nonneg_right (by omega) (by omega)
        omega
    have eR : R / D = r := by rw [hR]; exact Int.mul_ediv_cancel _ (by omega)
    rw [eR]
    obtain ⟨g1, g2⟩ := (Int.ediv_emod_unique hy).2 (⟨by rw [← hr]; grind, r0, r1⟩ : r + y * Q = hi * 18446744073709551616 + lo ∧ 0 ≤ r ∧ r < y)
    rw [g1, g2]
/-- A product over a number, cut down, or up. -/
def divS (a b c : Int) (up : Bool) : Int := if up = true then -((-(a * b)) / c) else a * b / c
/-- A number of 64 bits with a sign. -/
def In64 (n : Int) : Prop := -9223372036854775808 ≤ n ∧ n ≤ 9223372036854775807
instance (n : Int) : Decidable (In64 n) := by unfold In64; infer_instance
theorem size_eq (a : Int) (h : In64 a) : fix_size.f a = some (if a < 0 then -a else a, decide (a < 0)) := by
  obtain ⟨h0, h1⟩ := h
  unfold fix_size.f
  by_cases hn : a < 0
  · rw [if_pos hn, if_pos hn, decide_eq_true hn, wu64, wu64]
    have : -(a % 18446744073709551616) % 18446744073709551616 = -a := by omega
    rw [this]
  · rw [if_neg hn, if_neg hn, decide_eq_false hn, wu64]
    have : a % 18446744073709551616 = a := by omega
    rw [this]
theorem signed_eq (n : Int) (below : Bool) (h0 : 0 ≤ n) (h1 : n < 18446744073709551616) (k : Nat) :
    fix_signed.f (k + 1) n below = some (if In64 (if below = true then -n else n) then (if below = true then -n else n, true) else (0, false)) := by
  unfold fix_signed.f
  cases below with
  | true =>
    simp only [if_true]
    rw [fix_signed.j0]
    by_cases h : n ≤ 9223372036854775808
    · rw [decide_eq_true h, if_pos rfl, if_pos (by unfold In64; omega)]
      have : wrap64 (-(wrap64 n)) = -n := by unfold wrap64; omega
      rw [this]
    · rw [decide_eq_false h]
      simp only [Bool.false_eq_true, if_false, if_true]
      rw [if_neg (by unfold In64; omega)]
  | false =>
    simp only [Bool.false_eq_true, if_false]
    rw [fix_signed.j0]
    simp only [Bool.false_eq_true, if_false]
    by_cases h : n < 9223372036854775808
    · rw [if_pos h, if_pos (by unfold In64; omega)]
      have : wrap64 n = n := by unfold wrap64; omega
      rw [this]
    · rw [if_neg h, if_neg (by unfold In64; omega)]
theorem or_ne (x y : Int) (x0 : 0 ≤ x) (x1 : x < 18446744073709551616) (y0 : 0 ≤ y) (y1 : y < 18446744073709551616) : (Go.bits .or .u64 x y != 0) = decide (x ≠ 0 ∨ y ≠ 0) := by
  obtain ⟨a, rfl⟩ := Int.eq_ofNat_of_zero_le x0
  obtain ⟨b, rfl⟩ := Int.eq_ofNat_of_zero_le y0
  rw [(bits_nat .u64 64 (by decide) (fun n a b => by rw [wu64]; omega) a b (by omega) (by omega)).2]
  rw [Bool.eq_iff_iff]
  simp only [bne_iff_ne, ne_eq, decide_eq_true_eq]
  have := @Nat.or_eq_zero_iff a b
  omega
theorem neg_div (A c : Int) (hc : 0 < c) : (-A) / c = -(A / c) - (if A % c > 0 then 1 else 0) := by
  have e := Int.emod_add_mul_ediv A c
  have m0 := Int.emod_nonneg A (show c ≠ 0 by omega)
  have m1 := Int.emod_lt_of_pos A hc
  generalize hq : A / c = q at *
  generalize hr : A % c = r at *
  by_cases h : r > 0
  · rw [if_pos h]
    have e2 : c * (-q - 1) = -(c * q) - c := by grind
    exact ((Int.ediv_emod_unique hc).2 (⟨by rw [e2]; omega, by omega, by omega⟩ : (c - r) + c * (-q - 1) = -A ∧ 0 ≤ c - r ∧ c - r < c)).1
  · rw [if_neg h]
    have e2 : c * (-q - 0) = -(c * q) := by grind
    exact ((Int.ediv_emod_unique hc).2 (⟨by rw [e2]; omega, by omega, by omega⟩ : 0 + c * (-q - 0) = -A ∧ (0 : Int) ≤ 0 ∧ (0 : Int) < c)).1
theorem abs_mul (a b : Int) : (if a < 0 then -a else a) * (if b < 0 then -b else b) = if (a < 0) ≠ (b < 0) then -(a * b) else a * b := by
  by_cases h1 : a < 0 <;> by_cases h2 : b < 0 <;> simp [h1, h2] <;> grind
theorem Div_none (a b c : Int) (up : Bool) (k : Nat) (h : c ≤ 0) : fix_Div.f k a b c up = some (0, false) := by
  unfold fix_Div.f; rw [if_pos h]
theorem Div_eq (a b c : Int) (up : Bool) (ha : In64 a) (hb : In64 b) (hc : 0 < c) (hc1 : c ≤ 9223372036854775807) (k : Nat) (hk : 40 < k) :
    fix_Div.f k a b c up = some (if In64 (divS a b c up) then (divS a b c up, true) else (0, false)) := by
  unfold fix_Div.f
  rw [if_neg (by omega), size_eq a ha, size_eq b hb]
  simp only [Option.bind_some]
  have hx0 : 0 ≤ (if a < 0 then -a else a) ∧ (if a < 0 then -a else a) ≤ 9223372036854775808 := by unfold In64 at ha; split <;> omega
  have hy0 : 0 ≤ (if b < 0 then -b else b) ∧ (if b < 0 then -b else b) ≤ 9223372036854775808 := by unfold In64 at hb; split <;> omega
  have hab := abs_mul a b
  generalize hx : (if a < 0 then -a else a) = x at *
  generalize hy : (if b < 0 then -b else b) = y at *
  rw [Wide_eq x y hx0.1 (by omega) hy0.1 (by omega)]
  simp only [Option.bind_some]
  have wc : IntKind.u64.wrap c = c := by rw [wu64]; omega
  rw [wc]
  have A0 : 0 ≤ x * y := Int.mul_nonneg hx0.1 hy0.1
  have A1 : x * y ≤ 9223372036854775808 * 9223372036854775808 := Int.mul_le_mul hx0.2 hy0.2 hy0.1 (by omega)
  have hbe : (decide (a < 0) != decide (b < 0)) = decide ((a < 0) ≠ (b < 0)) := by
    by_cases h1 : a < 0 <;> by_cases h2 : b < 0 <;> simp [h1, h2]
  have hP : a * b = if ((a < 0) ≠ (b < 0)) then -(x * y) else x * y := by
    rw [hab]; split <;> omega
  generalize hA : x * y = A at *
  have hq : A / c * c ≤ A := Int.ediv_mul_le _ (by omega)
  have hr0 : 0 ≤ A % c := Int.emod_nonneg _ (by omega)
  have hq0 : 0 ≤ A / c := Int.ediv_nonneg A0 (by omega)
  have hS : divS a b c up = (if ((a < 0) ≠ (b < 0)) then -(A / c + (if A % c > 0 ∧ up = false then 1 else 0)) else (A / c + (if A % c > 0 ∧ up = true then 1 else 0))) := by
    have hn := neg_div A c hc
    unfold divS
    rw [hP]
    cases up <;> by_cases h : ((a < 0) ≠ (b < 0)) <;> simp only [if_pos h, if_neg h, Bool.false_eq_true, if_false, if_true, and_true, and_false, Int.neg_neg, reduceCtorEq]
    · rw [hn]; split <;> omega
    · omega
    · omega
    · rw [hn]; split <;> omega
  by_cases hbig : A / 18446744073709551616 ≥ c
  · rw [if_pos hbig]
    have h2 : 18446744073709551616 ≤ A / c := (Int.le_ediv_iff_mul_le hc).2 (by omega)
    have hno : ¬ In64 (divS a b c up) := by
      rw [hS]; unfold In64
      split <;> split <;> omega
    rw [if_neg hno]
  · rw [if_neg hbig]
    have em : A / 18446744073709551616 * 18446744073709551616 + A % 18446744073709551616 = A := by omega
    rw [Div64_eq _ _ c (by omega) (by omega) (by omega) (by omega) (by omega) k (by omega), em]
    simp only [Option.bind_some]
    have hq1 : A / c < 18446744073709551616 := (Int.ediv_lt_iff_lt_mul hc).2 (by omega)
    have hj : ∀ below : Bool, (below = true → ((a < 0) ≠ (b < 0))) → (below = false → ¬ ((a < 0) ≠ (b < 0)) ∨ A = 0) →
        fix_Div.j0 k up (A / c) (A % c) below = some (if In64 (divS a b c up) then (divS a b c up, true) else (0, false)) := by
      intro below hb1 hb2
      have hval : divS a b c up = if below = true then -(A / c + (if A % c > 0 ∧ up ≠ below then 1 else 0)) else (A / c + (if A % c > 0 ∧ up ≠ below then 1 else 0)) := by
        rw [hS]
        cases below with
        | true => rw [if_pos (hb1 rfl), if_pos rfl]; cases up <;> simp
        | false =>
          rcases hb2 rfl with h | h
          · simp only [if_neg h, Bool.false_eq_true, if_false]; cases up <;> simp
          · subst h
            simp
      obtain ⟨k, rfl⟩ : ∃ m, k = m + 1 := ⟨k - 1, by omega⟩
      rw [fix_Div.j0]
      obtain ⟨k, rfl⟩ : ∃ m, k = m + 1 := ⟨k - 1, by omega⟩
      have plain : ¬ (A % c > 0 ∧ up ≠ below) → fix_Div.j1 (k + 1) (A / c) below false = some (if In64 (divS a b c up) then (divS a b c up, true) else (0, false)) := by
        intro hn
        rw [fix_Div.j1]
        simp only [Bool.false_eq_true, if_false]
        obtain ⟨k, rfl⟩ : ∃ m, k = m + 1 := ⟨k - 1, by omega⟩
        rw [signed_eq _ below hq0 hq1, hval, if_neg hn, Int.add_zero]
        rfl
      by_cases hr : A % c > 0
      · rw [if_pos hr]
        by_cases hu : up = below
        · have : (up != below) = false := by rw [hu]; simp
          rw [this]; exact plain (fun h => h.2 hu)
        · have : (up != below) = true := by simpa using hu
          rw [this, fix_Div.j1]
          simp only [if_true]
          have hval2 : divS a b c up = if below = true then -(A / c + 1) else (A / c + 1) := by rw [hval]; simp only [if_pos (show A % c > 0 ∧ up ≠ below from ⟨hr, hu⟩)]
          by_cases ho : A / c + 1 = 18446744073709551616
          · have w0 : IntKind.u64.wrap (A / c + 1) = 0 := by rw [wu64, ho]; decide
            rw [w0, if_pos rfl, if_neg (by rw [hval2]; unfold In64; split <;> omega)]
          · have w0 : IntKind.u64.wrap (A / c + 1) = A / c + 1 := by rw [wu64]; omega
            rw [w0, if_neg (by omega)]
            obtain ⟨k, rfl⟩ : ∃ m, k = m + 1 := ⟨k - 1, by omega⟩
            rw [signed_eq _ below (by omega) (by omega), hval2]
            rfl
      · rw [if_neg hr]; exact plain (fun h => hr h.1)
    rw [hbe]
    by_cases hne : ((a < 0) ≠ (b < 0))
    · rw [decide_eq_true hne]
      simp only [if_true]
      rw [or_ne _ _ (by omega) (by omega) (by omega) (by omega)]
      refine hj _ (fun _ => hne) (fun h => .inr ?_)
      have := of_decide_eq_false h
      omega
    · rw [decide_eq_false hne]
      simp only [Bool.false_eq_true, if_false]
      exact hj false (fun h => by simp at h) (fun _ => .inl hne)
theorem number_eq (v b : Int) (h0 : 0 < b) (h1 : b ≤ 1000000000) : pledgeworld_Number.f v b = some (v % b) := by
  unfold pledgeworld_Number.f
  rw [if_neg (by omega)]
  have h1 := Int.tmod_lt_of_pos v h0
  have h2 := Int.lt_tmod_of_pos v h0
  have h3 := Int.emod_nonneg v (show b ≠ 0 by omega)
  have h4 := Int.emod_lt_of_pos v h0
  have h5 := Int.emod_add_mul_ediv v b
  have h6 := Int.tmod_add_mul_tdiv v b
  have key : ∃ c : Int, Int.tmod v b = v % b + b * c := ⟨v / b - Int.tdiv v b, by rw [Int.mul_sub]; omega⟩
  obtain ⟨c, hc⟩ := key
  have hcc : c = 0 ∨ c = -1 := by
    have a1 : c < 1 := by
      apply Decidable.byContradiction; intro hx
      have : b * 1 ≤ b * c := Int.mul_le_mul_of_nonneg_left (by omega) (by omega)
      omega
    have a2 : -2 < c := by
      apply Decidable.byContradiction; intro hx
      have : b * c ≤ b * (-2) := Int.mul_le_mul_of_nonneg_left (by omega) (by omega)
      omega
    omega
  rcases hcc with rfl | rfl
  · rw [if_neg (by omega)]; congr 1; omega
  · rw [if_pos (by omega), w64s _ (by omega) (by omega)]; congr 1; omega
theorem and_low (n : Int) : Go.bits .and .i64 n 4294967295 = n % 4294967296 := by
  have e : ((BitVec.ofInt 64 n) &&& (BitVec.ofInt 64 4294967295)).toNat = (n % 18446744073709551616).toNat % 2 ^ 32 := by
    rw [BitVec.toNat_and, BitVec.toNat_ofInt, show (BitVec.ofInt 64 4294967295).toNat = 2 ^ 32 - 1 from rfl, Nat.and_two_pow_sub_one_eq_mod]
    rfl
  show IntKind.i64.wrap (((BitVec.ofInt 64 n) &&& (BitVec.ofInt 64 4294967295)).toNat : Int) = _
  rw [e, IntKind.wrap_i64]
  omega
theorem or_halves (h l : Int) (h0 : -2147483648 ≤ h) (h1 : h ≤ 2147483647) (l0 : 0 ≤ l) (l1 : l < 4294967296) : Go.bits .or .i64 (wrap64 (h * 4294967296)) l = h * 4294967296 + l := by
  rw [w64 _ (by omega) (by omega)]
  obtain ⟨b, rfl⟩ := Int.eq_ofNat_of_zero_le l0
  have hb : b < 2 ^ 32 := by omega
  have ea : (BitVec.ofInt 64 (h * 4294967296)).toNat = 2 ^ 32 * (h % 4294967296).toNat := by
    rw [BitVec.toNat_ofInt, show ((2 ^ 64 : Nat) : Int) = 18446744073709551616 from rfl]
    omega
  have eb : (BitVec.ofInt 64 (b : Int)).toNat = b := by
    rw [BitVec.toNat_ofInt, show ((2 ^ 64 : Nat) : Int) = 18446744073709551616 from rfl]
    omega
  show IntKind.i64.wrap (((BitVec.ofInt 64 (h * 4294967296)) ||| (BitVec.ofInt 64 (b : Int))).toNat : Int) = _
  rw [BitVec.toNat_or, ea, eb, ← Nat.two_pow_add_eq_or_of_lt hb, IntKind.wrap_i64]
  omega
theorem xor_max (x : Int) (h0 : 0 ≤ x) (h1 : x < 18446744073709551616) : Go.bits .xor .u64 IntKind.u64.max x = 18446744073709551615 - x := by
  obtain ⟨n, rfl⟩ := Int.eq_ofNat_of_zero_le h0
  have en : (BitVec.ofInt 64 (n : Int)).toNat = n := by
    rw [BitVec.toNat_ofInt, show ((2 ^ 64 : Nat) : Int) = 18446744073709551616 from rfl]
    omega
  show IntKind.u64.wrap (((BitVec.ofInt 64 IntKind.u64.max) ^^^ (BitVec.ofInt 64 (n : Int))).toNat : Int) = _
  have em : BitVec.ofInt 64 IntKind.u64.max = BitVec.allOnes 64 := rfl
  rw [em, BitVec.allOnes_xor, BitVec.toNat_not, en, wu64]
  omega
/-- Sizes: how far a number is from 0. -/
def ab (a : Int) : Int := if a < 0 then -a else a
theorem ab_bd (a : Int) (h : In64 a) : 0 ≤ ab a ∧ ab a ≤ 9223372036854775808 := by unfold ab; obtain ⟨h0, h1⟩ := h; split <;> omega
theorem ab_mul (a b : Int) : ab a * ab b = if (decide (a < 0) != decide (b < 0)) = true then -(a * b) else a * b := by
  have := abs_mul a b
  unfold ab
  rw [this]
  by_cases h1 : a < 0 <;> by_cases h2 : b < 0 <;> simp [h1, h2]
theorem ab_prod (a b : Int) (ha : In64 a) (hb : In64 b) : 0 ≤ ab a * ab b ∧ ab a * ab b ≤ 85070591730234615865843651857942052864 := by
  obtain ⟨a0, a1⟩ := ab_bd a ha
  obtain ⟨b0, b1⟩ := ab_bd b hb
  refine ⟨Int.mul_nonneg a0 b0, ?_⟩
  have : ab a * ab b ≤ 9223372036854775808 * 9223372036854775808 := Int.mul_le_mul a1 b1 b0 (by omega)
  omega
theorem product_eq (a b : Int) (ha : In64 a) (hb : In64 b) : fix_product.f a b = some (a * b / 18446744073709551616, a * b % 18446744073709551616) := by
  unfold fix_product.f
  have ⟨a0, a1⟩ := ab_bd a ha
  have ⟨b0, b1⟩ := ab_bd b hb
  rw [size_eq a ha, size_eq b hb]
  simp only [Option.bind_some]
  rw [show (if a < 0 then -a else a) = ab a from rfl, show (if b < 0 then -b else b) = ab b from rfl, Wide_eq _ _ a0 (by omega) b0 (by omega)]
  simp only [Option.bind_some]
  have hm := ab_mul a b
  have ⟨p0, p1⟩ := ab_prod a b ha hb
  generalize ab a * ab b = P at *
  have hnb : (decide (a < 0) == decide (b < 0)) = !(decide (a < 0) != decide (b < 0)) := by simp [bne]
  rw [hnb]
  generalize (decide (a < 0) != decide (b < 0)) = neg at *
  clear hnb ha hb a0 a1 b0 b1
  have m0 := Int.emod_nonneg P (show (18446744073709551616 : Int) ≠ 0 by omega)
  have m1 := Int.emod_lt_of_pos P (show (0 : Int) < 18446744073709551616 by omega)
  have q0 : 0 ≤ P / 18446744073709551616 := by omega
  have q1 : P / 18446744073709551616 ≤ 4611686018427387904 := by omega
  have e := Int.emod_add_mul_ediv P 18446744073709551616
  cases neg with
  | false =>
    simp only [Bool.not_false, if_true, Bool.false_eq_true, if_false] at hm ⊢
    rw [w64 _ (by omega) (by omega), hm]
  | true =>
    simp only [Bool.not_true, Bool.false_eq_true, if_false, if_true] at hm ⊢
    rw [xor_max _ m0 m1, xor_max _ q0 (by omega), if_pos (by omega), wu64]
    have hX : a * b = -P := by omega
    rw [hX]
    congr 2
    · generalize P / 18446744073709551616 = q at *
      generalize P % 18446744073709551616 = r at *
      have hP : P = 18446744073709551616 * q + r := by omega
      subst hP
      clear hX hm p0 p1 e
      unfold wrap64
      by_cases hr : r = 0
      · subst hr; omega
      · omega
    · omega
theorem Or2 (x y : Int) (k : Nat) (hk : 3 < k) : cmp_Or_int.f k [x, y] = some (if x = 0 then y else x) := by
  unfold cmp_Or_int.f
  have hl : (([x, y] : List Int).length : Int) = 2 := rfl
  rw [hl]
  have r0 : rd [x, y] 0 = x := rfl
  have r1 : rd [x, y] 1 = y := rfl
  obtain ⟨k, rfl⟩ : ∃ m, k = m + 1 := ⟨k - 1, by omega⟩
  simp only [cmp_Or_int.l0]
  rw [if_pos (by omega), if_pos (by omega), hl, if_pos (by omega), r0, show wrap64 (0 + 1) = 1 from by rw [w64s _ (by omega) (by omega)]; rfl]
  by_cases hx : x = 0
  · rw [if_pos hx, if_pos hx]
    obtain ⟨k, rfl⟩ : ∃ m, k = m + 1 := ⟨k - 1, by omega⟩
    simp only [cmp_Or_int.l0]
    rw [if_pos (by omega), if_pos (by omega), hl, if_pos (by omega), r1, show wrap64 (1 + 1) = 2 from by rw [w64s _ (by omega) (by omega)]; rfl]
    by_cases hy : y = 0
    · rw [if_pos hy]
      obtain ⟨k, rfl⟩ : ∃ m, k = m + 1 := ⟨k - 1, by omega⟩
      simp only [cmp_Or_int.l0]
      rw [if_neg (by omega), hy]
    · rw [if_neg hy]
  · rw [if_neg hx, if_neg hx]
theorem Cmp64_eq (a b : Int) : cmp_Compare_int64.f a b = some (if a < b then -1 else if b < a then 1 else 0) := by
  unfold cmp_Compare_int64.f cmp_isNaN_int64.f
  simp only [Option.bind_some, bne_self_eq_false, Bool.false_eq_true, if_false]
  repeat' split
  all_goals first | rfl | omega
theorem CmpU_eq (a b : Int) : cmp_Compare_uint64.f a b = some (if a < b then -1 else if b < a then 1 else 0) := by
  unfold cmp_Compare_uint64.f cmp_isNaN_uint64.f
  simp only [Option.bind_some, bne_self_eq_false, Bool.false_eq_true, if_false]
  repeat' split
  all_goals first | rfl | omega
theorem lex_hi (X Y p r q s : Int) (hX : X = 18446744073709551616 * p + r) (hY : Y = 18446744073709551616 * q + s) (r0 : 0 ≤ r) (r1 : r < 18446744073709551616) (s0 : 0 ≤ s) (s1 : s < 18446744073709551616) :
    (if (if p < q then (-1 : Int) else if q < p then 1 else 0) = 0 then (if r < s then (-1 : Int) else if s < r then 1 else 0) else (if p < q then (-1 : Int) else if q < p then 1 else 0)) = if X < Y then -1 else if Y < X then 1 else 0 := by
  by_cases h1 : p < q
  · rw [if_pos h1, if_neg (show ¬ (-1 : Int) = 0 by omega), if_pos (show X < Y by omega)]
  · rw [if_neg h1]
    by_cases h2 : q < p
    · rw [if_pos h2, if_neg (show ¬ (1 : Int) = 0 by omega), if_neg (show ¬ X < Y by omega), if_pos (show Y < X by omega)]
    · rw [if_neg h2, if_pos rfl]
      obtain rfl : p = q := by omega
      by_cases h3 : r < s
      · rw [if_pos h3, if_pos (show X < Y by omega)]
      · rw [if_neg h3]
        by_cases h4 : s < r
        · rw [if_pos h4, if_neg (show ¬ X < Y by omega), if_pos (show Y < X by omega)]
        · rw [if_neg h4, if_neg (show ¬ X < Y by omega), if_neg (show ¬ Y < X by omega)]
theorem Cmp_eq (a b c d : Int) (ha : In64 a) (hb : In64 b) (hc : In64 c) (hd : In64 d) (k : Nat) (hk : 3 < k) :
    fix_Cmp.f k a b c d = some (if a * b < c * d then -1 else if c * d < a * b then 1 else 0) := by
  unfold fix_Cmp.f
  rw [product_eq a b ha hb, product_eq c d hc hd]
  generalize a * b = X
  generalize c * d = Y
  simp only [Option.bind_some]
  rw [Cmp64_eq, CmpU_eq]
  simp only [Option.bind_some]
  rw [Or2 _ _ k hk]
  simp only [Option.bind_some]
  rw [lex_hi X Y _ _ _ _ (by omega) (by omega) (by omega) (by omega) (by omega) (by omega)]
/-- A lot that may be. -/
def okL (x : S36) : Prop := (0 ≤ x.f0 ∧ x.f0 ≤ 1000) ∧ (0 ≤ x.f1 ∧ x.f1 ≤ 1000000000) ∧ (0 ≤ x.f2 ∧ x.f2 ≤ 1000000000)
theorem lotB_ok (x : S36) (n : Int) (h : lotB x n = true) : okL x ∧ 0 ≤ x.f3 ∧ x.f3 < n := by
  unfold lotB inB at h
  simp only [Bool.and_eq_true, decide_eq_true_eq] at h
  exact ⟨⟨h.1.1.1, h.1.1.2, h.1.2⟩, h.2⟩
theorem Valid_none {L : List S36} {C : List Int} {N : Int} (h : lots_Valid.f L C N = some none) : (0 < L.length ∧ L.length ≤ 8) ∧ (∀ x ∈ L, okL x ∧ 0 ≤ x.f3 ∧ x.f3 < (C.length : Int)) ∧ (0 < C.length ∧ C.length ≤ 8) ∧ (∀ n ∈ C, 0 ≤ n ∧ n ≤ 1000000000000) ∧ 0 ≤ N ∧ N ≤ 1000000000000 := by
  unfold lots_Valid.f at h
  have h := Option.some.inj h
  by_cases h1 : L.length = 0 ∨ 8 < L.length ∨ C.length = 0 ∨ 8 < C.length
  · rw [if_pos h1] at h; cases h
  · rw [if_neg h1] at h
    by_cases h2 : (L.any fun x => !lotB x (C.length : Int)) = true ∨ (C.any fun n => !inB n 1000000000000) = true ∨ inB N 1000000000000 = false
    · rw [if_pos h2] at h; cases h
    · simp only [not_or, List.any_eq_true, not_exists, not_and] at h2
      obtain ⟨a, b, c⟩ := h2
      refine ⟨by omega, fun x hx => lotB_ok x _ ?_, by omega, fun n hn => ?_, ?_⟩
      · have := a x hx; simpa using this
      · have := b n hn
        unfold inB at this; simp at this; exact this
      · unfold inB at c; simp at c; exact c
theorem Valid_ex (L : List S36) (C : List Int) (N : Int) : ∃ r, lots_Valid.f L C N = some r := ⟨_, rfl⟩
/-- The lot at a place. -/
def lt (L : List S36) (j : Nat) : S36 := L.getD j z36
theorem rd_lt (L : List S36) (j : Nat) : rd_T36 L (j : Int) = lt L j := by unfold rd_T36 lt; rw [Int.toNat_natCast]
theorem lt_mem (L : List S36) (j : Nat) (h : j < L.length) : lt L j ∈ L := by
  unfold lt; rw [List.getD_eq_getElem?_getD, List.getElem?_eq_getElem h]; exact List.getElem_mem h
theorem lt_ok {L : List S36} (ok : ∀ x ∈ L, okL x) (j : Nat) (h : j < L.length) : okL (lt L j) := ok _ (lt_mem L j h)
/-- Cheaper for what it is worth. -/
def chp (a b : S36) : Bool := if a.f1 = 0 then decide (a.f1 > b.f1) else if b.f1 = 0 then decide (a.f1 > b.f1) else decide (a.f2 * b.f1 < b.f2 * a.f1)
theorem Cheaper_eq (a b : S36) (ha : okL a) (hb : okL b) (k : Nat) (hk : 3 < k) : lots_Cheaper.f k a.f0 a.f1 a.f2 a.f3 b.f0 b.f1 b.f2 b.f3 = some (chp a b) := by
  unfold lots_Cheaper.f chp
  obtain ⟨_, a1, a2⟩ := ha
  obtain ⟨_, b1, b2⟩ := hb
  by_cases h1 : a.f1 = 0
  · rw [if_pos h1, if_pos h1]
  · rw [if_neg h1, if_neg h1]
    by_cases h2 : b.f1 = 0
    · rw [if_pos h2, if_pos h2]
    · rw [if_neg h2, if_neg h2, Cmp_eq _ _ _ _ (by unfold In64; omega) (by unfold In64; omega) (by unfold In64; omega) (by unfold In64; omega) k hk]
      simp only [Option.bind_some]
      congr 1
      generalize a.f2 * b.f1 = X
      generalize b.f2 * a.f1 = Y
      by_cases h3 : X < Y
      · rw [if_pos h3, decide_eq_true h3]; rfl
      · rw [if_neg h3, decide_eq_false h3]
        by_cases h4 : Y < X
        · rw [if_pos h4]; rfl
        · rw [if_neg h4]; rfl
theorem fr' (a va b vb c vc : Int) (hvb : 0 < vb) (hva : 0 ≤ va) (hvc : 0 ≤ vc) (h1 : a * vb ≤ b * va) (h2 : b * vc ≤ c * vb) : a * vc ≤ c * va := by
  have e1 : (a * vc) * vb = (a * vb) * vc := by grind
  have e2 : (b * va) * vc = (b * vc) * va := by grind
  have e3 : (c * vb) * va = (c * va) * vb := by grind
  have g1 : (a * vb) * vc ≤ (b * va) * vc := Int.mul_le_mul_of_nonneg_right h1 hvc
  have g2 : (b * vc) * va ≤ (c * vb) * va := Int.mul_le_mul_of_nonneg_right h2 hva
  exact Int.le_of_mul_le_mul_right (by rw [e1, ← e3, ← e2] at *; omega) hvb
/-- A lot that counts. -/
def good (L : List S36) (j : Nat) : Prop := 0 < (lt L j).f1 ∧ 0 < (lt L j).f0
/-- The cheapest of those from a place up to another. -/
def best (L : List S36) (fr i b : Nat) : Prop := fr ≤ b ∧ b < i ∧ good L b ∧ ∀ j, fr ≤ j → j < i → good L j → (lt L b).f2 * (lt L j).f1 ≤ (lt L j).f2 * (lt L b).f1
def RateIs (L : List S36) (fr : Nat) (r : Int × Int × Bool) : Prop :=
  (r = (0, 0, false) ∧ ∀ j, fr ≤ j → j < L.length → ¬ good L j) ∨ ∃ b, best L fr L.length b ∧ r = ((lt L b).f2, (lt L b).f1, true)
theorem Rate_l0 (L : List S36) (C : List Int) (N : Int) (hL : L.length ≤ 8) (ok : ∀ x ∈ L, okL x) (fr : Nat) : ∀ (d i k : Nat) (x : Int), L.length - i = d → i ≤ L.length → fr ≤ i → d + 20 < k →
    ((x = -1 ∧ ∀ j, fr ≤ j → j < i → ¬ good L j) ∨ ∃ b : Nat, x = (b : Int) ∧ best L fr i b) → ∃ r, bound_Rate.l0 k x (i : Int) L C N = some r ∧ RateIs L fr r := by
  intro d
  induction d with
  | zero =>
    intro i k x hd hi hfr hk hx
    obtain ⟨k, rfl⟩ : ∃ m, k = m + 1 := ⟨k - 1, by omega⟩
    obtain rfl : i = L.length := by omega
    simp only [bound_Rate.l0]
    rw [if_neg (by omega)]
    rcases hx with ⟨rfl, h⟩ | ⟨b, rfl, h⟩
    · rw [if_pos (by omega)]; exact ⟨_, rfl, .inl ⟨rfl, h⟩⟩
    · have hb := h.2.1
      rw [if_neg (by omega), if_pos (by omega), if_pos (by omega), rd_lt]
      exact ⟨_, rfl, .inr ⟨b, h, rfl⟩⟩
  | succ d ih =>
    intro i k x hd hi hfr hk hx
    obtain ⟨k, rfl⟩ : ∃ m, k = m + 1 := ⟨k - 1, by omega⟩
    have n1 : i < L.length := by omega
    have e : wrap64 ((i : Int) + 1) = ((i + 1 : Nat) : Int) := by rw [w64s _ (by omega) (by omega)]; omega
    have m1 : L.length - (i + 1) = d := by clear hx; omega
    have m2 : i + 1 ≤ L.length := by clear hx; omega
    have m3 : fr ≤ i + 1 := by clear hx; omega
    have m4 : d + 20 < k := by clear hx; omega
    have IH := ih (i + 1) k
    have okI := lt_ok ok i n1
    simp only [bound_Rate.l0]
    rw [if_pos (by omega), if_pos (by omega), e, rd_lt]
    clear e
    have keep : ∀ (hg : ¬ good L i), ((x = -1 ∧ ∀ j, fr ≤ j → j < i + 1 → ¬ good L j) ∨ ∃ b : Nat, x = (b : Int) ∧ best L fr (i + 1) b) := by
      intro hg
      rcases hx with ⟨rfl, h⟩ | ⟨b, rfl, h⟩
      · refine .inl ⟨rfl, fun j h1 h2 => ?_⟩
        by_cases hj : j = i
        · rw [hj]; exact hg
        · exact h j h1 (by omega)
      · refine .inr ⟨b, rfl, h.1, by have := h.2.1; omega, h.2.2.1, fun j h1 h2 h3 => ?_⟩
        by_cases hj : j = i
        · rw [hj] at h3; exact absurd h3 hg
        · exact h.2.2.2 j h1 (by omega) h3
    by_cases g1 : (lt L i).f1 > 0
    · by_cases g0 : (lt L i).f0 > 0
      · rw [if_pos g1, if_pos g0]
        have hgi : good L i := ⟨g1, g0⟩
        rcases hx with ⟨rfl, h⟩ | ⟨b, rfl, h⟩
        · rw [if_pos (by omega)]
          refine IH _ (by omega) (by omega) (by omega) (by omega) (.inr ⟨i, rfl, hfr, by omega, hgi, fun j h1 h2 h3 => ?_⟩)
          by_cases hj : j = i
          · rw [hj]; exact Int.le_refl _
          · exact absurd h3 (h j h1 (by omega))
        · have hb := h.2.1
          have okB := lt_ok ok b (by omega)
          rw [if_neg (by omega), if_pos (by omega), if_pos (by omega), rd_lt, Cheaper_eq _ _ okI okB k (by omega)]
          simp only [Option.bind_some]
          have hgb := h.2.2.1
          have hc : chp (lt L i) (lt L b) = decide ((lt L i).f2 * (lt L b).f1 < (lt L b).f2 * (lt L i).f1) := by
            unfold chp; rw [if_neg (by omega), if_neg (by have := hgb.1; omega)]
          rw [hc]
          by_cases hlt : (lt L i).f2 * (lt L b).f1 < (lt L b).f2 * (lt L i).f1
          · rw [decide_eq_true hlt, if_pos rfl]
            refine IH _ (by omega) (by omega) (by omega) (by omega) (.inr ⟨i, rfl, hfr, by omega, hgi, fun j h1 h2 h3 => ?_⟩)
            by_cases hj : j = i
            · rw [hj]; exact Int.le_refl _
            · exact fr' _ _ _ _ _ _ hgb.1 (by omega) (by have := h3.1; omega) (by omega) (h.2.2.2 j h1 (by omega) h3)
          · rw [decide_eq_false hlt, if_neg (by simp)]
            refine IH _ (by omega) (by omega) (by omega) (by omega) (.inr ⟨b, rfl, h.1, by omega, hgb, fun j h1 h2 h3 => ?_⟩)
            by_cases hj : j = i
            · rw [hj]; omega
            · exact h.2.2.2 j h1 (by omega) h3
      · rw [if_pos g1, if_neg g0]
        exact IH _ m1 m2 m3 m4 (keep (fun h => g0 h.2))
    · rw [if_neg g1]
      exact IH _ m1 m2 m3 m4 (keep (fun h => g1 h.1))
theorem is_eq {L : List S36} {C : List Int} {N : Int} (hv : lots_Valid.f L C N = some none) (fr : Int) : bound_is.f L C N fr = some (decide (0 ≤ fr ∧ fr ≤ (L.length : Int))) := by
  unfold bound_is.f
  rw [hv]
  simp only [Option.bind_some, Option.isNone_none, if_true]
  by_cases h : fr ≥ 0
  · rw [if_pos h]; exact congrArg some (decide_eq_decide.2 (by omega))
  · rw [if_neg h, decide_eq_false (by omega)]
theorem Rate_eq {L : List S36} {C : List Int} {N : Int} (hv : lots_Valid.f L C N = some none) (fr : Nat) (hf : fr ≤ L.length) (k : Nat) (hk : 40 < k) : ∃ r, bound_Rate.f k L C N (fr : Int) = some r ∧ RateIs L fr r := by
  obtain ⟨hL, ok, _⟩ := Valid_none hv
  unfold bound_Rate.f
  rw [is_eq hv, decide_eq_true (by omega)]
  simp only [Option.bind_some, if_true]
  exact Rate_l0 L C N hL.2 (fun x hx => (ok x hx).1) fr (L.length - fr) fr k (-1) rfl hf (Nat.le_refl _) (by omega) (.inl ⟨rfl, fun j h1 h2 => by omega⟩)
/-- What so much costs at least, of what is priced so. -/
def cl (x c v : Int) : Int := -(-(x * c) / v)
theorem Least_eq {L : List S36} {C : List Int} {N : Int} (hv : lots_Valid.f L C N = some none) (fr : Nat) (hf : fr ≤ L.length) (x : Int) (hx : In64 x) (k : Nat) (hk : 60 < k) :
    (x ≤ 0 → bound_Least.f k L C N (fr : Int) x = some (0, true)) ∧
    (0 < x → (∀ j, fr ≤ j → j < L.length → ¬ good L j) → bound_Least.f k L C N (fr : Int) x = some (0, false)) ∧
    (0 < x → ∀ b, best L fr L.length b → ∃ b', best L fr L.length b' ∧ bound_Least.f k L C N (fr : Int) x = some (if In64 (cl x (lt L b').f2 (lt L b').f1) then (cl x (lt L b').f2 (lt L b').f1, true) else (0, false))) := by
  obtain ⟨hL, ok, _⟩ := Valid_none hv
  unfold bound_Least.f
  rw [is_eq hv, decide_eq_true (by omega)]
  simp only [Option.bind_some, if_true]
  obtain ⟨r, hr, hi⟩ := Rate_eq hv fr hf k (by omega)
  refine ⟨fun h => by rw [if_pos h], fun h hn => ?_, fun h b hb => ?_⟩
  · rw [if_neg (by omega), hr]
    rcases hi with ⟨rfl, _⟩ | ⟨b, hb, rfl⟩
    · rfl
    · exact absurd hb.2.2.1 (hn b hb.1 hb.2.1)
  · rw [if_neg (by omega), hr]
    rcases hi with ⟨rfl, hn⟩ | ⟨b', hb', rfl⟩
    · exact absurd hb.2.2.1 (hn b hb.1 hb.2.1)
    · refine ⟨b', hb', ?_⟩
      obtain ⟨_, o1, o2⟩ := lt_ok (fun x hx => (ok x hx).1) b' hb'.2.1
      simp only [Option.bind_some, if_true]
      rw [Div_eq x _ _ true hx (by unfold In64; omega) hb'.2.2.1.1 (by omega) k (by omega)]
      have e : divS x (lt L b').f2 (lt L b').f1 true = cl x (lt L b').f2 (lt L b').f1 := by unfold divS cl; simp
      rw [e]
      rfl
theorem cl_le (x c v K : Int) (hv : 0 < v) (h : x * c ≤ K * v) : cl x c v ≤ K := by
  unfold cl
  have : -K ≤ -(x * c) / v := by
    rw [Int.le_ediv_iff_mul_le hv]
    have : -K * v = -(K * v) := by grind
    omega
  omega
theorem cl_ge (x c v : Int) (hv : 0 < v) : x * c ≤ cl x c v * v := by
  unfold cl
  have h := Int.ediv_mul_le (-(x * c)) (show v ≠ 0 by omega)
  have : -(-(x * c) / v) * v = -((-(x * c) / v) * v) := by grind
  omega
theorem cl_nonneg (x c v : Int) (hv : 0 < v) (h : 0 ≤ x * c) : 0 ≤ cl x c v := by
  have := cl_ge x c v hv
  apply Decidable.byContradiction
  intro hn
  have : cl x c v * v ≤ (-1) * v := Int.mul_le_mul_of_nonneg_right (by omega) (by omega)
  omega
theorem first19_eq (k : Nat) (hk : 100 < k) : pledgelaw19_first.f k = some true := by
  unfold pledgelaw19_first.f
  simp only [Option.bind_some]
  have hv : lots_Valid.f [(⟨3, 5, 2, 0⟩ : S36)] [0] 0 = some none := by decide
  have hb : best [(⟨3, 5, 2, 0⟩ : S36)] 0 1 0 := ⟨Nat.le_refl _, by omega, ⟨by decide, by decide⟩, fun j _ h _ => by
    obtain rfl : j = 0 := by omega
    decide⟩
  have h1 := (Least_eq hv 0 (Nat.zero_le _) 0 (by unfold In64; omega) k (by omega)).1 (by omega)
  obtain ⟨b, hb2, h2⟩ := (Least_eq hv 0 (Nat.zero_le _) 6 (by unfold In64; omega) k (by omega)).2.2 (by omega) 0 hb
  have hb0 : b = 0 := by have := hb2.2.1; simp at this; omega
  subst hb0
  have e : cl 6 (lt [(⟨3, 5, 2, 0⟩ : S36)] 0).f2 (lt [(⟨3, 5, 2, 0⟩ : S36)] 0).f1 = 3 := by decide
  rw [e, if_pos (by unfold In64; omega)] at h2
  rw [show ((0 : Nat) : Int) = 0 from rfl] at h1 h2
  rw [h1, h2]
  rfl
/-- What all of these are worth. -/
def uv : List S36 → Int
  | [] => 0
  | x :: l => x.f0 * x.f1 + uv l
theorem uv_bd : ∀ (l : List S36), (∀ x ∈ l, okL x) → 0 ≤ uv l ∧ uv l ≤ 1000000000000 * (l.length : Int)
  | [], _ => by simp [uv]
  | x :: l, h => by
    have ih := uv_bd l (fun y hy => h y (List.mem_cons_of_mem _ hy))
    obtain ⟨⟨a0, a1⟩, ⟨b0, b1⟩, _⟩ := h x (List.mem_cons_self ..)
    have m0 : 0 ≤ x.f0 * x.f1 := Int.mul_nonneg a0 b0
    have m1 : x.f0 * x.f1 ≤ 1000 * 1000000000 := Int.mul_le_mul a1 b1 b0 (by omega)
    simp only [uv, List.length_cons]
    omega
theorem drop_lt (L : List S36) (i : Nat) (h : i < L.length) : L.drop i = lt L i :: L.drop (i + 1) := by
  rw [List.drop_eq_getElem_cons h]; unfold lt; rw [List.getD_eq_getElem?_getD, List.getElem?_eq_getElem h]; rfl
theorem uv_step (L : List S36) (i : Nat) (h : i < L.length) : uv (L.drop i) = (lt L i).f0 * (lt L i).f1 + uv (L.drop (i + 1)) := by rw [drop_lt L i h]; rfl
theorem Can_l0 (l : List S36) (hl : l.length ≤ 8) (ok : ∀ x ∈ l, okL x) (x : Int) : ∀ (d i k : Nat) (s : Int), l.length - i = d → i ≤ l.length → d < k → 0 ≤ s → s ≤ 1000000000000 * (i : Int) →
    bound_Can.l0 k x s l (l.length : Int) (i : Int) = some (decide (s + uv (l.drop i) ≥ x)) := by
  intro d
  induction d with
  | zero =>
    intro i k s hd hi hk s0 s1
    obtain ⟨k, rfl⟩ : ∃ m, k = m + 1 := ⟨k - 1, by omega⟩
    simp only [bound_Can.l0]
    rw [if_neg (by omega), List.drop_eq_nil_of_le (by omega)]
    simp [uv]
  | succ d ih =>
    intro i k s hd hi hk s0 s1
    obtain ⟨k, rfl⟩ : ∃ m, k = m + 1 := ⟨k - 1, by omega⟩
    have n1 : i < l.length := by omega
    have e : wrap64 ((i : Int) + 1) = ((i + 1 : Nat) : Int) := by rw [w64s _ (by omega) (by omega)]; omega
    obtain ⟨⟨a0, a1⟩, ⟨b0, b1⟩, _⟩ := lt_ok ok i n1
    have m0 : 0 ≤ (lt l i).f0 * (lt l i).f1 := Int.mul_nonneg a0 b0
    have m1 : (lt l i).f0 * (lt l i).f1 ≤ 1000 * 1000000000 := Int.mul_le_mul a1 b1 b0 (by omega)
    have hu := uv_step l i n1
    have n2 : (i : Int) < (l.length : Int) := by omega
    have n3 : (0 : Int) ≤ (i : Int) := by omega
    have n4 : (i : Int) ≤ 8 := by omega
    have ec : ((i + 1 : Nat) : Int) = (i : Int) + 1 := by omega
    have q1 : l.length - (i + 1) = d := by omega
    have q2 : d < k := by omega
    simp only [bound_Can.l0]
    rw [if_pos n2, if_pos n3, if_pos n2, rd_lt, e]
    clear e hd hk hi
    generalize (lt l i).f0 * (lt l i).f1 = p at *
    rw [w64 p (by omega) (by omega), w64 (s + p) (by omega) (by omega), ih (i + 1) k (s + p) q1 n1 q2 (by omega) (by rw [ec]; omega), hu]
    congr 1
    exact decide_eq_decide.2 (by omega)
theorem Can_eq {L : List S36} {C : List Int} {N : Int} (hv : lots_Valid.f L C N = some none) (fr : Nat) (hf : fr ≤ L.length) (x : Int) (k : Nat) (hk : 60 < k) :
    bound_Can.f k L C N (fr : Int) x = some (decide (uv (L.drop fr) ≥ x)) := by
  obtain ⟨hL, ok, _⟩ := Valid_none hv
  unfold bound_Can.f
  rw [is_eq hv, decide_eq_true (by omega)]
  simp only [Option.bind_some, if_true]
  rw [if_pos (by omega), if_pos (by omega), Int.toNat_natCast]
  have := Can_l0 (L.drop fr) (by rw [List.length_drop]; omega) (fun y hy => (ok y (List.mem_of_mem_drop hy)).1) x (L.drop fr).length 0 k 0 (by omega) (Nat.zero_le _) (by rw [List.length_drop]; omega) (by omega) (by omega)
  rw [show ((0 : Nat) : Int) = 0 from rfl, List.drop_zero, Int.zero_add] at this
  exact this
/-- What was taken so far: what it is worth, what it costs. -/
structure Took (L : List S36) (fr i : Nat) (W K : Int) : Prop where
  w0 : 0 ≤ W
  k0 : 0 ≤ K
  k1 : K ≤ 1000000000000 * (i : Int)
  all : W + uv (L.drop i) ≤ uv (L.drop fr)
  rate : ∀ b, best L fr L.length b → W * (lt L b).f2 ≤ K * (lt L b).f1
  none : (∀ j, fr ≤ j → j < L.length → ¬ good L j) → W = 0
theorem took_step {L : List S36} (ok : ∀ x ∈ L, okL x) {fr i : Nat} {W K : Int} (h : Took L fr i W K) (hf : fr ≤ i) (hi : i < L.length) (n : Int) (n0 : 0 ≤ n) (n1 : n ≤ (lt L i).f0) :
    Took L fr (i + 1) (W + n * (lt L i).f1) (K + n * (lt L i).f2) := by
  obtain ⟨⟨a0, a1⟩, ⟨b0, b1⟩, ⟨c0, c1⟩⟩ := lt_ok ok i hi
  have m0 : 0 ≤ n * (lt L i).f1 := Int.mul_nonneg n0 b0
  have m1 : 0 ≤ n * (lt L i).f2 := Int.mul_nonneg n0 c0
  have m2 : n * (lt L i).f2 ≤ 1000 * 1000000000 := Int.mul_le_mul (by omega) c1 c0 (by omega)
  have m3 : n * (lt L i).f1 ≤ (lt L i).f0 * (lt L i).f1 := Int.mul_le_mul_of_nonneg_right n1 b0
  have hu := uv_step L i hi
  obtain ⟨h1, h2, h3, h4, h5, h6⟩ := h
  refine ⟨by omega, by omega, by omega, by omega, fun b hb => ?_, fun hn => ?_⟩
  · have r := h5 b hb
    have r2 : n * (lt L i).f1 * (lt L b).f2 ≤ n * (lt L i).f2 * (lt L b).f1 := by
      have okb := lt_ok ok b hb.2.1
      by_cases hg : good L i
      · have := hb.2.2.2 i hf hi hg
        have g := Int.mul_le_mul_of_nonneg_left this n0
        have e1 : n * (lt L i).f1 * (lt L b).f2 = n * ((lt L b).f2 * (lt L i).f1) := by grind
        have e2 : n * (lt L i).f2 * (lt L b).f1 = n * ((lt L i).f2 * (lt L b).f1) := by grind
        rw [e1, e2]; exact g
      · have hz : n * (lt L i).f1 = 0 := by
          by_cases hv : (lt L i).f1 = 0
          · rw [hv]; simp
          · have hu0 : (lt L i).f0 = 0 := by
              apply Decidable.byContradiction; intro hc; exact hg ⟨by omega, by omega⟩
            have : n = 0 := by omega
            rw [this]; simp
        rw [hz, Int.zero_mul]
        exact Int.mul_nonneg m1 okb.2.1.1
    have e1 : (W + n * (lt L i).f1) * (lt L b).f2 = W * (lt L b).f2 + n * (lt L i).f1 * (lt L b).f2 := by grind
    have e2 : (K + n * (lt L i).f2) * (lt L b).f1 = K * (lt L b).f1 + n * (lt L i).f2 * (lt L b).f1 := by grind
    rw [e1, e2]; omega
  · have hW := h6 hn
    have hg := hn i hf hi
    have hz : n * (lt L i).f1 = 0 := by
      by_cases hv : (lt L i).f1 = 0
      · rw [hv]; simp
      · have hu0 : (lt L i).f0 = 0 := by
          apply Decidable.byContradiction; intro hc; exact hg ⟨by omega, by omega⟩
        have : n = 0 := by omega
        rw [this]; simp
    omega
theorem holds_fin {L : List S36} {C : List Int} {N : Int} (hv : lots_Valid.f L C N = some none) (fr : Nat) (hf : fr ≤ L.length) (W K : Int) (h : Took L fr L.length W K) (k : Nat) (hk : 70 < k) :
    ((bound_Least.f k L C N (fr : Int) W).bind fun bt194 => (if bt194.2 = true then (if bt194.1 ≤ K then ((bound_Can.f k L C N (fr : Int) W).bind fun t196 => (if t196 = true then ((bound_Can.f k L C N (fr : Int) 4611686018427387904).bind fun t197 => (some (!t197))) else (some false))) else (some false)) else (some false))) = some true := by
  obtain ⟨hL, ok, _⟩ := Valid_none hv
  have ok' : ∀ x ∈ L, okL x := fun x hx => (ok x hx).1
  have hS := uv_bd (L.drop fr) (fun x hx => ok' x (List.mem_of_mem_drop hx))
  have hlen : ((L.drop fr).length : Int) ≤ 8 := by rw [List.length_drop]; omega
  obtain ⟨w0, k0, k1, hall, hrate, hnone⟩ := h
  have e0 : uv (L.drop L.length) = 0 := by rw [List.drop_length]; rfl
  rw [e0] at hall
  have hc1 := Can_eq hv fr hf W k (by omega)
  have hc2 := Can_eq hv fr hf 4611686018427387904 k (by omega)
  rw [decide_eq_true (by omega)] at hc1
  rw [decide_eq_false (by omega)] at hc2
  have main : ∃ n, bound_Least.f k L C N (fr : Int) W = some (n, true) ∧ n ≤ K := by
    obtain ⟨h1, h2, h3⟩ := Least_eq hv fr hf W (by unfold In64; omega) k (by omega)
    by_cases hw : W ≤ 0
    · exact ⟨0, h1 hw, k0⟩
    · obtain ⟨r, hr, hi⟩ := Rate_eq hv fr hf k (by omega)
      rcases hi with ⟨_, hno⟩ | ⟨b, hb, _⟩
      · exact absurd (hnone hno) (by omega)
      · obtain ⟨b', hb', e⟩ := h3 (by omega) b hb
        have okb := lt_ok ok' b' hb'.2.1
        have hle := cl_le W _ _ K hb'.2.2.1.1 (hrate b' hb')
        have hge := cl_nonneg W (lt L b').f2 _ hb'.2.2.1.1 (Int.mul_nonneg w0 okb.2.2.1)
        have hLl : (L.length : Int) ≤ 8 := by omega
        rw [if_pos (by unfold In64; omega)] at e
        exact ⟨_, e, hle⟩
  obtain ⟨n, e1, e2⟩ := main
  rw [e1]
  simp only [Option.bind_some, if_true]
  rw [if_pos e2, hc1]
  simp only [Option.bind_some, if_true]
  rw [hc2]
  rfl
theorem sum_w (W p : Int) (w0 : 0 ≤ W) (w1 : W ≤ 8000000000000) (p0 : 0 ≤ p) (p1 : p ≤ 1000 * 1000000000) : wrap64 p = p ∧ wrap64 (W + p) = W + p := ⟨w64 _ (by omega) (by omega), w64 _ (by omega) (by omega)⟩
theorem wall {W u S len : Int} (h : W + u ≤ S) (u0 : 0 ≤ u) (hS : S ≤ 1000000000000 * len) (hl : len ≤ 8) : W ≤ 8000000000000 := by omega
theorem kall {K i : Int} (h : K ≤ 1000000000000 * i) (hi : i ≤ 8) : K ≤ 8000000000000 := by omega
theorem holds_l0 {L : List S36} {C : List Int} {N : Int} (hv : lots_Valid.f L C N = some none) (T : List Int) (hT : T.length ≤ 20) (fr : Nat) (hf : fr ≤ L.length) : ∀ (d i k : Nat) (W K : Int), L.length - i = d → i ≤ L.length → fr ≤ i → d + 100 < k → Took L fr i W K →
    pledgelaw19_BoundHolds.l0 k T (fr : Int) W K (i : Int) L C N = some true := by
  obtain ⟨hL, ok, _⟩ := Valid_none hv
  have ok' : ∀ x ∈ L, okL x := fun x hx => (ok x hx).1
  have hS := uv_bd (L.drop fr) (fun x hx => ok' x (List.mem_of_mem_drop hx))
  have hlen : ((L.drop fr).length : Int) ≤ 8 := by rw [List.length_drop]; omega
  intro d
  induction d with
  | zero =>
    intro i k W K hd hi hfr hk h
    obtain ⟨k, rfl⟩ : ∃ m, k = m + 1 := ⟨k - 1, by omega⟩
    obtain rfl : i = L.length := by omega
    simp only [pledgelaw19_BoundHolds.l0]
    rw [if_neg (by omega)]
    exact holds_fin hv fr hf W K h k (by omega)
  | succ d ih =>
    intro i k W K hd hi hfr hk h
    obtain ⟨k, rfl⟩ : ∃ m, k = m + 1 := ⟨k - 1, by omega⟩
    have n1 : i < L.length := by omega
    obtain ⟨⟨a0, a1⟩, ⟨b0, b1⟩, ⟨c0, c1⟩⟩ := lt_ok ok' i n1
    have q1 : L.length - (i + 1) = d := by omega
    have q2 : d + 100 < k := by omega
    have n2 : (i : Int) < (L.length : Int) := by omega
    have n3 : (0 : Int) ≤ (i : Int) := by omega
    have n4 : (i : Int) ≤ 8 := by omega
    have e : wrap64 ((i : Int) + 1) = ((i + 1 : Nat) : Int) := by rw [w64s _ (by omega) (by omega)]; omega
    have hu0 := uv_bd (L.drop i) (fun x hx => ok' x (List.mem_of_mem_drop hx))
    have go : ∀ n : Int, 0 ≤ n → n ≤ (lt L i).f0 → pledgelaw19_BoundHolds.l0 k T (fr : Int) (wrap64 (W + (wrap64 (n * (lt L i).f1)))) (wrap64 (K + (wrap64 (n * (lt L i).f2)))) (wrap64 ((i : Int) + 1)) L C N = some true := by
      intro n x0 x1
      have hs := took_step ok' h hfr n1 n x0 x1
      obtain ⟨w0, k0, k1, hall, _, _⟩ := h
      have m0 : 0 ≤ n * (lt L i).f1 := Int.mul_nonneg x0 b0
      have m1 : 0 ≤ n * (lt L i).f2 := Int.mul_nonneg x0 c0
      have m2 : n * (lt L i).f2 ≤ 1000 * 1000000000 := Int.mul_le_mul (by omega) c1 c0 (by omega)
      have m3 : n * (lt L i).f1 ≤ 1000 * 1000000000 := Int.mul_le_mul (by omega) b1 b0 (by omega)
      have hWall : W ≤ 8000000000000 := wall hall hu0.1 hS.2 hlen
      have hKall : K ≤ 8000000000000 := kall k1 n4
      obtain ⟨t1, t3⟩ := sum_w W _ w0 hWall m0 m3
      obtain ⟨t2, t4⟩ := sum_w K _ k0 hKall m1 m2
      rw [e, t1, t2, t3, t4]
      exact ih (i + 1) k _ _ q1 n1 (Nat.le_succ_of_le hfr) q2 hs
    simp only [pledgelaw19_BoundHolds.l0]
    rw [if_pos n2]
    by_cases ht : (i : Int) < (T.length : Int)
    · rw [if_pos ht, if_pos n3, rd_lt, w64s ((lt L i).f0 + 1) (by omega) (by omega), number_eq _ _ (by omega) (by omega)]
      simp only [Option.bind_some]
      exact go _ (Int.emod_nonneg _ (by omega)) (by have := Int.emod_lt_of_pos (rd T (i : Int)) (show (0 : Int) < (lt L i).f0 + 1 by omega); omega)
    · rw [if_neg ht, if_pos n3, rd_lt]
      exact go 0 (Int.le_refl _) a0
end Go.Proofs.YtilgekmngbijmaaDoor.PrBoundHolds
namespace Go.Proofs.YtilgekmngbijmaaDoor.Pr
open Go.RowKit Go.Proofs.YtilgekmngbijmaaDoor.EBoundHolds Go.Proofs.YtilgekmngbijmaaDoor.PrBoundHolds
theorem BoundHolds : pledgelaw19_BoundHolds.Pure := by
  intro L C N T f _ _ _ _ _ _
  obtain ⟨k, hk⟩ : ∃ k : Nat, 300 < k := ⟨301, by omega⟩
  obtain ⟨k', hk'⟩ : ∃ m, k = m + 1 := ⟨k - 1, by omega⟩
  have hj : pledgelaw19_BoundHolds.j0 k T f true true L C N = some true := by rw [hk']; simp [pledgelaw19_BoundHolds.j0]
  refine ⟨k, ?_⟩
  unfold pledgelaw19_BoundHolds.f
  rw [first19_eq k (by omega)]
  simp only [if_true, Option.bind_some]
  by_cases h : (L.length : Int) > 20
  · rw [if_pos h]; exact hj
  · rw [if_neg h]
    obtain ⟨r, hr⟩ := Valid_ex L C N
    rw [hr]
    simp only [Option.bind_some]
    cases r with
    | some e => simp; exact hj
    | none =>
      simp only [Option.isNone_none, if_true, Bool.not_true]
      by_cases h2 : (T.length : Int) > 20
      · rw [if_pos h2]; exact hj
      · rw [if_neg h2, hk']
        obtain ⟨hL, ok, _⟩ := Valid_none hr
        simp only [pledgelaw19_BoundHolds.j0, Bool.false_eq_true, if_false]
        rw [w64s ((L.length : Int) + 1) (by omega) (by omega), number_eq _ _ (by omega) (by omega)]
        simp only [Option.bind_some]
        have f0 := Int.emod_nonneg f (show (L.length : Int) + 1 ≠ 0 by omega)
        have f1 := Int.emod_lt_of_pos f (show (0 : Int) < (L.length : Int) + 1 by omega)
        generalize f % ((L.length : Int) + 1) = fr at *
        obtain ⟨fr, rfl⟩ := Int.eq_ofNat_of_zero_le f0
        exact holds_l0 hr T (by omega) fr (by omega) (L.length - fr) fr k' 0 0 rfl (by omega) (Nat.le_refl _) (by omega) ⟨Int.le_refl _, Int.le_refl _, by omega, by omega, fun b hb => by simp, fun _ => rfl⟩
end Go.Proofs.YtilgekmngbijmaaDoor.Pr
