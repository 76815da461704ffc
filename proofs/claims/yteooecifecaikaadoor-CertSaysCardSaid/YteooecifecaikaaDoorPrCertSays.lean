/- Of any problem and any result: whether it is right, or what is amiss first, how far it may be from the cheapest, which lot may be one less, are what the chapter says: the pure statement of CertSays, for all numbers. Conditions: none beyond the statement's own. -/
import Derived.Test.YteooecifecaikaaDoorECertSaysx
import Derived.Test.YteooecifecaikaaDoorOpen
namespace Go.Proofs.YteooecifecaikaaDoor.PrCertSays
open Go.RowKit Go.Proofs.YteooecifecaikaaDoor.ECertSays Go.Proofs.YteooecifecaikaaDoorW.PrintWords Go.Proofs.YteooecifecaikaaDoorW.PrintLast Go.Proofs.YteooecifecaikaaDoorW.PrintMore Go.Proofs.YteooecifecaikaaDoorW.PrintOpen
set_option linter.unusedSimpArgs false
set_option linter.unusedVariables false
theorem w64 (x : Int) (h1 : -9223372036854775808 ≤ x) (h2 : x ≤ 9223372036854775807) : wrap64 x = x := by unfold wrap64; omega
theorem w64s (x : Int) (h1 : -1000000000 ≤ x) (h2 : x ≤ 1000000000) : wrap64 x = x := by unfold wrap64; omega
theorem wu64 (n : Int) : IntKind.u64.wrap n = n % 18446744073709551616 := by simp [IntKind.wrap, IntKind.bits, IntKind.signed]
theorem and32 (x : Int) (h0 : 0 ≤ x) (h1 : x < 18446744073709551616) : Go.bits .and .u64 x 4294967295 = x % 4294967296 := by
 have := bits_mask .u64 64 (by decide) (fun n a b => by rw [wu64]; omega) 32 (by decide) x h0 (by omega)
 simpa using this
theorem pb (x y : Int) (hx : 0 ≤ x) (hx1 : x < 4294967296) (hy : 0 ≤ y) (hy1 : y < 4294967296) : 0 ≤ x * y ∧ x * y ≤ 18446744065119617025 := by
 refine ⟨Int.mul_nonneg hx hy, ?_⟩
 have := Int.mul_le_mul (show x ≤ 4294967295 by omega) (show y ≤ 4294967295 by omega) hy (by omega)
 omega
theorem split32 (a b : Int) : a * b = (a / 4294967296) * (b / 4294967296) * 18446744073709551616 + ((a / 4294967296) * (b % 4294967296) + (a % 4294967296) * (b / 4294967296)) * 4294967296 + (a % 4294967296) * (b % 4294967296) := by
 have h1 : a = (a / 4294967296) * 4294967296 + a % 4294967296 := by omega
 have h2 : b = (b / 4294967296) * 4294967296 + b % 4294967296 := by omega
 generalize a / 4294967296 = a1 at *
 generalize a % 4294967296 = a0 at *
 generalize b / 4294967296 = b1 at *
 generalize b % 4294967296 = b0 at *
 subst h1 h2
 grind
theorem Wide_eq (a b : Int) (ha0 : 0 ≤ a) (ha1 : a < 18446744073709551616) (hb0 : 0 ≤ b) (hb1 : b < 18446744073709551616) :
  fix_Wide.f a b = some (a * b / 18446744073709551616, a * b % 18446744073709551616) := by
 unfold fix_Wide.f
 simp only [wu64, and32 a ha0 ha1, and32 b hb0 hb1]
 have e := split32 a b
 obtain ⟨q1, q2⟩ := pb (a / 4294967296) (b / 4294967296) (by omega) (by omega) (by omega) (by omega)
 obtain ⟨q3, q4⟩ := pb (a / 4294967296) (b % 4294967296) (by omega) (by omega) (by omega) (by omega)
 obtain ⟨q5, q6⟩ := pb (a % 4294967296) (b / 4294967296) (by omega) (by omega) (by omega) (by omega)
 obtain ⟨q7, q8⟩ := pb (a % 4294967296) (b % 4294967296) (by omega) (by omega) (by omega) (by omega)
 generalize a / 4294967296 * (b / 4294967296) = p11 at *
 generalize a / 4294967296 * (b % 4294967296) = p10 at *
 generalize a % 4294967296 * (b / 4294967296) = p01 at *
 generalize a % 4294967296 * (b % 4294967296) = p00 at *
 generalize a * b = p at *
 rw [and32 _ (by omega) (by omega)]
 congr 2
 omega
def lenTab : ByteArray := ⟨#[0, 1, 2, 2, 3, 3, 3, 3, 4, 4, 4, 4, 4, 4, 4, 4, 5, 5, 5, 5, 5, 5, 5, 5, 5, 5, 5, 5, 5, 5, 5, 5, 6, 6, 6, 6, 6, 6, 6, 6, 6, 6, 6, 6, 6, 6, 6, 6, 6, 6, 6, 6, 6, 6, 6, 6, 6, 6, 6, 6, 6, 6, 6, 6, 7, 7, 7, 7, 7, 7, 7, 7, 7, 7, 7, 7, 7, 7, 7, 7, 7, 7, 7, 7, 7, 7, 7, 7, 7, 7, 7, 7, 7, 7, 7, 7, 7, 7, 7, 7, 7, 7, 7, 7, 7, 7, 7, 7, 7, 7, 7, 7, 7, 7, 7, 7, 7, 7, 7, 7, 7, 7, 7, 7, 7, 7, 7, 7, 8, 8, 8, 8, 8, 8, 8, 8, 8, 8, 8, 8, 8, 8, 8, 8, 8, 8, 8, 8, 8, 8, 8, 8, 8, 8, 8, 8, 8, 8, 8, 8, 8, 8, 8, 8, 8, 8, 8, 8, 8, 8, 8, 8, 8, 8, 8, 8, 8, 8, 8, 8, 8, 8, 8, 8, 8, 8, 8, 8, 8, 8, 8, 8, 8, 8, 8, 8, 8, 8, 8, 8, 8, 8, 8, 8, 8, 8, 8, 8, 8, 8, 8, 8, 8, 8, 8, 8, 8, 8, 8, 8, 8, 8, 8, 8, 8, 8, 8, 8, 8, 8, 8, 8, 8, 8, 8, 8, 8, 8, 8, 8, 8, 8, 8, 8, 8, 8, 8, 8, 8, 8, 8, 8, 8, 8, 8, 8]⟩
set_option maxRecDepth 100000 in
theorem lenTab_dec : ∀ j : Fin 256, 0 < (j : Nat) → (bt lenTab (j : Nat) = 1 ∧ 1 ≤ (j : Nat) ∧ (j : Nat) ≤ 1) ∨ (bt lenTab (j : Nat) = 2 ∧ 2 ≤ (j : Nat) ∧ (j : Nat) ≤ 3) ∨ (bt lenTab (j : Nat) = 3 ∧ 4 ≤ (j : Nat) ∧ (j : Nat) ≤ 7) ∨ (bt lenTab (j : Nat) = 4 ∧ 8 ≤ (j : Nat) ∧ (j : Nat) ≤ 15) ∨ (bt lenTab (j : Nat) = 5 ∧ 16 ≤ (j : Nat) ∧ (j : Nat) ≤ 31) ∨ (bt lenTab (j : Nat) = 6 ∧ 32 ≤ (j : Nat) ∧ (j : Nat) ≤ 63) ∨ (bt lenTab (j : Nat) = 7 ∧ 64 ≤ (j : Nat) ∧ (j : Nat) ≤ 127) ∨ (bt lenTab (j : Nat) = 8 ∧ 128 ≤ (j : Nat) ∧ (j : Nat) ≤ 255) := by decide
theorem lenTab_spec (i : Int) (h0 : 0 < i) (h1 : i < 256) : (bt lenTab i = 1 ∧ 1 ≤ i ∧ i ≤ 1) ∨ (bt lenTab i = 2 ∧ 2 ≤ i ∧ i ≤ 3) ∨ (bt lenTab i = 3 ∧ 4 ≤ i ∧ i ≤ 7) ∨ (bt lenTab i = 4 ∧ 8 ≤ i ∧ i ≤ 15) ∨ (bt lenTab i = 5 ∧ 16 ≤ i ∧ i ≤ 31) ∨ (bt lenTab i = 6 ∧ 32 ≤ i ∧ i ≤ 63) ∨ (bt lenTab i = 7 ∧ 64 ≤ i ∧ i ≤ 127) ∨ (bt lenTab i = 8 ∧ 128 ≤ i ∧ i ≤ 255) := by
 obtain ⟨n, rfl⟩ := Int.eq_ofNat_of_zero_le (show 0 ≤ i by omega)
 have := lenTab_dec ⟨n, by omega⟩ (by show 0 < n; omega)
 simp only at this
 omega
theorem wadd (n a t : Int) (n0 : 0 ≤ n) (n1 : n ≤ 32) (a0 : 0 ≤ a) (a1 : a ≤ 24) (t0 : 1 ≤ t) (t1 : t ≤ 8) : wrap64 ((wrap64 (n + a)) + (wrap64 t)) = n + (a + t) := by
 rw [w64 (n + a) (by omega) (by omega), w64 t (by omega) (by omega), w64 _ (by omega) (by omega)]; omega
theorem Len_j0 (k : Nat) (x n : Int) (hx : 0 < x) (hx1 : x < 4294967296) (hn0 : 0 ≤ n) (hn1 : n ≤ 32) :
  ∃ L : Nat, bits_Len64.j0 (k + 1) x n = some (n + L) ∧ 1 ≤ L ∧ L ≤ 32 ∧ (2 : Int) ^ (L - 1) ≤ x ∧ x < (2 : Int) ^ L := by
 have key : ∀ (i a : Int) (b : Nat), 0 < i → i < 256 → a = (b : Int) → b ≤ 24 → x / (2 : Int) ^ b = i →
   ∃ L : Nat, (some (wrap64 ((wrap64 (n + a)) + (wrap64 (bt lenTab i)))) : Option Int) = some (n + L) ∧ 1 ≤ L ∧ L ≤ b + 8 ∧ (2 : Int) ^ (L - 1) ≤ x ∧ x < (2 : Int) ^ L := by
  intro i a b h0 h1 ha hb hi
  have hp : 0 < (2 : Int) ^ b := Int.pow_pos (by decide)
  have e1 : i * (2 : Int) ^ b ≤ x := by rw [← hi]; exact Int.ediv_mul_le _ (by omega)
  have e2 : x < (i + 1) * (2 : Int) ^ b := by rw [← hi]; exact Int.lt_ediv_add_one_mul_self _ hp
  have sp := lenTab_spec i h0 h1
  generalize bt lenTab i = tv at sp ⊢
  have fin : ∀ t : Nat, tv = t → 1 ≤ t → t ≤ 8 → (2 : Int) ^ (t - 1) ≤ i → i + 1 ≤ (2 : Int) ^ t →
    ∃ L : Nat, (some (wrap64 ((wrap64 (n + a)) + (wrap64 tv))) : Option Int) = some (n + L) ∧ 1 ≤ L ∧ L ≤ b + 8 ∧ (2 : Int) ^ (L - 1) ≤ x ∧ x < (2 : Int) ^ L := by
   clear sp
   intro t ht t1 t8 g0 g1
   refine ⟨b + t, ?_, by omega, by omega, ?_, ?_⟩
   ·
    subst ht
    rw [wadd n a t hn0 hn1 (by rw [ha]; exact Int.natCast_nonneg _) (by rw [ha]; exact_mod_cast hb) (by exact_mod_cast t1) (by exact_mod_cast t8), ha]
    rfl
   ·
    rw [show b + t - 1 = (t - 1) + b by omega, Int.pow_add]
    exact Int.le_trans (Int.mul_le_mul_of_nonneg_right g0 (by omega)) e1
   ·
    rw [show b + t = t + b by omega, Int.pow_add]
    exact Int.lt_of_lt_of_le e2 (Int.mul_le_mul_of_nonneg_right g1 (by omega))
  rcases sp with h | h | h | h | h | h | h | h
  · exact fin 1 h.1 (by omega) (by omega) (by simp; omega) (by simp; omega)
  · exact fin 2 h.1 (by omega) (by omega) (by simp; omega) (by simp; omega)
  · exact fin 3 h.1 (by omega) (by omega) (by simp; omega) (by simp; omega)
  · exact fin 4 h.1 (by omega) (by omega) (by simp; omega) (by simp; omega)
  · exact fin 5 h.1 (by omega) (by omega) (by simp; omega) (by simp; omega)
  · exact fin 6 h.1 (by omega) (by omega) (by simp; omega) (by simp; omega)
  · exact fin 7 h.1 (by omega) (by omega) (by simp; omega) (by simp; omega)
  · exact fin 8 h.1 (by omega) (by omega) (by simp; omega) (by simp; omega)
 rw [bits_Len64.j0]
 by_cases c1 : x ≥ 65536
 ·
  rw [if_pos c1]
  by_cases c2 : x / 65536 ≥ 256
  ·
   rw [if_pos c2, if_pos (by omega), if_pos (by omega)]
   obtain ⟨L, e, l1, l2, l3, l4⟩ := key (x / 65536 / 256 % 256) 24 24 (by omega) (by omega) rfl (by omega) (by omega)
   refine ⟨L, ?_, l1, by omega, l3, l4⟩
   rw [← e]
   have : wrap64 (wrap64 (n + 16) + 8) = wrap64 (n + 24) := by unfold wrap64; omega
   rw [this]
   rfl
  ·
   rw [if_neg c2, if_pos (by omega), if_pos (by omega)]
   obtain ⟨L, e, l1, l2, l3, l4⟩ := key (x / 65536 % 256) 16 16 (by omega) (by omega) rfl (by omega) (by omega)
   exact ⟨L, e, l1, by omega, l3, l4⟩
 ·
  rw [if_neg c1]
  by_cases c2 : x ≥ 256
  ·
   rw [if_pos c2, if_pos (by omega), if_pos (by omega)]
   obtain ⟨L, e, l1, l2, l3, l4⟩ := key (x / 256 % 256) 8 8 (by omega) (by omega) rfl (by omega) (by omega)
   exact ⟨L, e, l1, by omega, l3, l4⟩
  ·
   rw [if_neg c2, if_pos (by omega), if_pos (by omega)]
   obtain ⟨L, e, l1, l2, l3, l4⟩ := key (x % 256) 0 0 (by omega) (by omega) rfl (by omega) (by omega)
   refine ⟨L, ?_, l1, by omega, l3, l4⟩
   rw [← e]
   have : n = wrap64 (n + 0) := by unfold wrap64; omega
   rw [← this]
   rfl
theorem Len_eq (k : Nat) (x : Int) (hx : 0 < x) (hx1 : x < 18446744073709551616) :
  ∃ L : Nat, bits_Len64.f (k + 1) x = some (L : Int) ∧ 1 ≤ L ∧ L ≤ 64 ∧ (2 : Int) ^ (L - 1) ≤ x ∧ x < (2 : Int) ^ L := by
 unfold bits_Len64.f
 by_cases c : x ≥ 4294967296
 ·
  rw [if_pos c]
  obtain ⟨L, e, l1, l2, l3, l4⟩ := Len_j0 k (x / 4294967296) 32 (by omega) (by omega) (by omega) (by omega)
  refine ⟨32 + L, by rw [e]; simp, by omega, by omega, ?_, ?_⟩
  ·
   rw [show 32 + L - 1 = (L - 1) + 32 by omega, Int.pow_add]
   have : (2 : Int) ^ (L - 1) * 4294967296 ≤ x / 4294967296 * 4294967296 := Int.mul_le_mul_of_nonneg_right l3 (by omega)
   have h32 : (2 : Int) ^ 32 = 4294967296 := by decide
   rw [h32]; omega
  ·
   rw [show 32 + L = L + 32 by omega, Int.pow_add]
   have : (x / 4294967296 + 1) * 4294967296 ≤ (2 : Int) ^ L * 4294967296 := Int.mul_le_mul_of_nonneg_right (by omega) (by omega)
   have h32 : (2 : Int) ^ 32 = 4294967296 := by decide
   rw [h32]; omega
 ·
  rw [if_neg c]
  obtain ⟨L, e, l1, l2, l3, l4⟩ := Len_j0 k x 0 hx (by omega) (by omega) (by omega)
  exact ⟨L, by rw [e]; simp, l1, by omega, l3, l4⟩
/-- The digit's loops: what a guess q of the quotient of n = U * 2^32 + u by y = a * 2^32 + b tells. -/
structure Guess (U u a b q r : Int) : Prop where
 e : r = U - q * a
 r0 : 0 ≤ r
 r1 : r < 4294967296
 lo : (U * 4294967296 + u) / (a * 4294967296 + b) ≤ q
 hi : q ≤ 4294967297
structure Div32 (U u a b : Int) : Prop where
 a0 : 2147483648 ≤ a
 a1 : a < 4294967296
 b0 : 0 ≤ b
 b1 : b < 4294967296
 u0 : 0 ≤ u
 u1 : u < 4294967296
 U0 : 0 ≤ U
 U1 : U < a * 4294967296 + b
theorem Guess.key {U u a b q r : Int} (g : Guess U u a b q r) : U * 4294967296 + u - q * (a * 4294967296 + b) = r * 4294967296 + u - q * b := by
 rw [g.e]; grind
/-- A guess that passes the test is the digit. -/
theorem Guess.done {U u a b q r : Int} (d : Div32 U u a b) (g : Guess U u a b q r) (h : q * b ≤ r * 4294967296 + u) : q = (U * 4294967296 + u) / (a * 4294967296 + b) := by
 have hk := g.key
 have hy : 0 < a * 4294967296 + b := by have := d.a0; have := d.b0; omega
 have : q ≤ (U * 4294967296 + u) / (a * 4294967296 + b) := (Int.le_ediv_iff_mul_le hy).2 (by omega)
 exact Int.le_antisymm this g.lo
/-- One that fails it is too great. -/
theorem Guess.fails {U u a b q r : Int} (d : Div32 U u a b) (g : Guess U u a b q r) (h : 4294967296 ≤ q ∨ r * 4294967296 + u < q * b) : (U * 4294967296 + u) / (a * 4294967296 + b) ≤ q - 1 := by
 have hk := g.key
 have hy : 0 < a * 4294967296 + b := by have := d.a0; have := d.b0; omega
 have : (U * 4294967296 + u) / (a * 4294967296 + b) < q := by
  rcases h with h | h
  ·
   have h1 : (U * 4294967296 + u) / (a * 4294967296 + b) < 4294967296 := (Int.ediv_lt_iff_lt_mul hy).2 (by have := d.U1; have := d.u1; omega)
   omega
  · exact (Int.ediv_lt_iff_lt_mul hy).2 (by omega)
 omega
/-- The last guess, where what is left would be beyond a digit. -/
theorem Guess.over {U u a b q r : Int} (d : Div32 U u a b) (g : Guess U u a b q r) (h : 4294967296 ≤ q ∨ r * 4294967296 + u < q * b) (hr : 4294967296 ≤ r + a) :
  q - 1 = (U * 4294967296 + u) / (a * 4294967296 + b) := by
 have h1 := g.fails d h
 have hk := g.key
 have hy : 0 < a * 4294967296 + b := by have := d.a0; have := d.b0; omega
 have hb : (q - 1) * b ≤ 18446744073709551616 - 4294967296 := by
  have h2 : q - 1 ≤ 4294967296 := by have := g.hi; omega
  have h3 : (q - 1) * b ≤ 4294967296 * b := Int.mul_le_mul_of_nonneg_right h2 d.b0
  have := d.b1; omega
 have e : (q - 1) * (a * 4294967296 + b) = q * (a * 4294967296 + b) - a * 4294967296 - b := by grind
 have e2 : (q - 1) * b = q * b - b := by grind
 have : q - 1 ≤ (U * 4294967296 + u) / (a * 4294967296 + b) := (Int.le_ediv_iff_mul_le hy).2 (by have := d.u0; omega)
 omega
theorem Guess.next {U u a b q r : Int} (d : Div32 U u a b) (g : Guess U u a b q r) (h : 4294967296 ≤ q ∨ r * 4294967296 + u < q * b) (hr : r + a < 4294967296) : Guess U u a b (q - 1) (r + a) :=
 ⟨by rw [g.e]; grind, by have := g.r0; have := d.a0; omega, hr, g.fails d h, by have := g.hi; omega⟩
theorem Guess.first {U u a b : Int} (d : Div32 U u a b) : Guess U u a b (U / a) (U - U / a * a) := by
 have ha : 0 < a := by have := d.a0; omega
 have h1 : U - U / a * a = U % a := by have := Int.emod_def U a; rw [this]; grind
 have hy : 0 < a * 4294967296 + b := by have := d.a0; have := d.b0; omega
 refine ⟨rfl, by rw [h1]; exact Int.emod_nonneg _ (by omega), by rw [h1]; have := Int.emod_lt_of_pos U ha; have := d.a1; omega, ?_, ?_⟩
 ·
  have h2 : (U * 4294967296 + u) / (a * 4294967296 + b) < U / a + 1 := by
   refine (Int.ediv_lt_iff_lt_mul hy).2 ?_
   have h3 : U < (U / a + 1) * a := Int.lt_ediv_add_one_mul_self U ha
   have h4 : 0 ≤ U / a := Int.ediv_nonneg d.U0 (by omega)
   have h5 : 0 ≤ (U / a + 1) * b := Int.mul_nonneg (by omega) d.b0
   have h6 : (U / a + 1) * (a * 4294967296 + b) = (U / a + 1) * a * 4294967296 + (U / a + 1) * b := by grind
   have := d.u1
   omega
  omega
 ·
  have h2 : U / a < 4294967298 := by
   refine (Int.ediv_lt_iff_lt_mul ha).2 ?_
   have := d.U1; have := d.b1; have := d.a0
   omega
  omega
theorem qb_small {U u a b q r : Int} (d : Div32 U u a b) (g : Guess U u a b q r) (hq : ¬ q ≥ 4294967296) : 0 ≤ q ∧ 0 ≤ q * b ∧ q * b ≤ 18446744065119617025 := by
 have hy : 0 < a * 4294967296 + b := by have := d.a0; have := d.b0; omega
 have h0 : 0 ≤ q := Int.le_trans (Int.ediv_nonneg (by have := d.U0; have := d.u0; omega) (by omega)) g.lo
 exact ⟨h0, pb q b h0 (by omega) d.b0 d.b1⟩
/-- The first digit's loop. -/
theorem l0_digit (y s a b U u un0 : Int) (d : Div32 U u a b) : ∀ (n k : Nat) (q r : Int), (4294967296 - r) ≤ n * a → n * 2 + 2 ≤ k → Guess U u a b q r →
  ∃ k', k - (n * 2 + 2) ≤ k' ∧ bits_Div64.l0 k y s a b U u un0 q r = bits_Div64.j2 k' y s a b U u un0 ((U * 4294967296 + u) / (a * 4294967296 + b)) := by
 intro n
 induction n with
 | zero =>
  intro k q r h1 h2 g
  have := g.r1
  omega
 | succ n ih =>
  intro k q r h1 h2 g
  obtain ⟨k, rfl⟩ : ∃ m, k = m + 1 := ⟨k - 1, by omega⟩
  have hr0 := g.r0
  have hr1 := g.r1
  have hu0 := d.u0
  have hu1 := d.u1
  have ha0 := d.a0
  have ha1 := d.a1
  have hghi := g.hi
  have w1 : IntKind.u64.wrap (IntKind.u64.wrap (4294967296 * r) + u) = r * 4294967296 + u := by rw [wu64, wu64]; omega
  have w2 : IntKind.u64.wrap (r + a) = r + a := by rw [wu64]; omega
  have fail : (4294967296 ≤ q ∨ r * 4294967296 + u < q * b) → 1 ≤ q → ∃ k', k + 1 - ((n + 1) * 2 + 2) ≤ k' ∧ bits_Div64.j1 k y s a b U u un0 q r true = bits_Div64.j2 k' y s a b U u un0 ((U * 4294967296 + u) / (a * 4294967296 + b)) := by
   intro hf hq1
   obtain ⟨k, rfl⟩ : ∃ m, k = m + 1 := ⟨k - 1, by omega⟩
   have w3 : IntKind.u64.wrap (q - 1) = q - 1 := by rw [wu64]; omega
   rw [bits_Div64.j1]
   simp only [if_true]
   rw [w2, w3]
   by_cases ho : r + a ≥ 4294967296
   ·
    rw [if_pos ho, g.over d hf ho]
    exact ⟨k, by omega, rfl⟩
   ·
    rw [if_neg ho]
    have e : ((n + 1 : Nat) : Int) * a = n * a + a := by rw [Int.natCast_add]; grind
    obtain ⟨k', hk', ek⟩ := ih k (q - 1) (r + a) (by omega) (by omega) (g.next d hf (by omega))
    exact ⟨k', by omega, ek⟩
  rw [bits_Div64.l0]
  by_cases hq : q ≥ 4294967296
  ·
   rw [if_pos hq]
   exact fail (.inl hq) (by omega)
  ·
   rw [if_neg hq]
   obtain ⟨q0, qb0, qb1⟩ := qb_small d g hq
   have w4 : IntKind.u64.wrap (q * b) = q * b := by rw [wu64]; omega
   rw [w1, w4]
   by_cases hf : q * b > r * 4294967296 + u
   ·
    rw [decide_eq_true hf]
    refine fail (.inr (by omega)) ?_
    rcases Decidable.em (1 ≤ q) with h | h
    · exact h
    ·
     exfalso
     have : q = 0 := by omega
     subst this
     omega
   ·
    rw [decide_eq_false hf]
    obtain ⟨k, rfl⟩ : ∃ m, k = m + 1 := ⟨k - 1, by omega⟩
    rw [bits_Div64.j1]
    simp only [Bool.false_eq_true, if_false]
    rw [g.done d (by omega)]
    exact ⟨k, by omega, rfl⟩
/-- The second digit's loop, and what is handed back. -/
theorem l1_digit (y s a b U u q1 un21 : Int) (d : Div32 U u a b) (hs : 0 ≤ s) : ∀ (n k : Nat) (q r : Int), (4294967296 - r) ≤ n * a → n * 2 + 2 ≤ k → Guess U u a b q r →
  bits_Div64.l1 k y s a b u q1 r un21 q = some (IntKind.u64.wrap ((IntKind.u64.wrap (q1 * 4294967296)) + (U * 4294967296 + u) / (a * 4294967296 + b)), shr .u64 (IntKind.u64.wrap ((IntKind.u64.wrap ((IntKind.u64.wrap (un21 * 4294967296)) + u)) - (IntKind.u64.wrap ((U * 4294967296 + u) / (a * 4294967296 + b) * y)))) s) := by
 intro n
 induction n with
 | zero =>
  intro k q r h1 h2 g
  have := g.r1
  omega
 | succ n ih =>
  intro k q r h1 h2 g
  obtain ⟨k, rfl⟩ : ∃ m, k = m + 1 := ⟨k - 1, by omega⟩
  have hr0 := g.r0
  have hr1 := g.r1
  have hu0 := d.u0
  have hu1 := d.u1
  have ha0 := d.a0
  have ha1 := d.a1
  have hghi := g.hi
  have w1 : IntKind.u64.wrap (IntKind.u64.wrap (4294967296 * r) + u) = r * 4294967296 + u := by rw [wu64, wu64]; omega
  have w2 : IntKind.u64.wrap (r + a) = r + a := by rw [wu64]; omega
  have fail : (4294967296 ≤ q ∨ r * 4294967296 + u < q * b) → 1 ≤ q → bits_Div64.j4 k y s a b u q1 r un21 q true = some (IntKind.u64.wrap ((IntKind.u64.wrap (q1 * 4294967296)) + (U * 4294967296 + u) / (a * 4294967296 + b)), shr .u64 (IntKind.u64.wrap ((IntKind.u64.wrap ((IntKind.u64.wrap (un21 * 4294967296)) + u)) - (IntKind.u64.wrap ((U * 4294967296 + u) / (a * 4294967296 + b) * y)))) s) := by
   intro hf hq1
   obtain ⟨k, rfl⟩ : ∃ m, k = m + 1 := ⟨k - 1, by omega⟩
   have w3 : IntKind.u64.wrap (q - 1) = q - 1 := by rw [wu64]; omega
   rw [bits_Div64.j4]
   simp only [if_true]
   rw [w2, w3]
   by_cases ho : r + a ≥ 4294967296
   · rw [if_pos ho, if_pos hs, g.over d hf ho]
   ·
    rw [if_neg ho]
    have e : ((n + 1 : Nat) : Int) * a = n * a + a := by rw [Int.natCast_add]; grind
    exact ih k (q - 1) (r + a) (by omega) (by omega) (g.next d hf (by omega))
  rw [bits_Div64.l1]
  by_cases hq : q ≥ 4294967296
  ·
   rw [if_pos hq]
   exact fail (.inl hq) (by omega)
  ·
   rw [if_neg hq]
   obtain ⟨q0, qb0, qb1⟩ := qb_small d g hq
   have w4 : IntKind.u64.wrap (q * b) = q * b := by rw [wu64]; omega
   rw [w1, w4]
   by_cases hf : q * b > r * 4294967296 + u
   ·
    rw [decide_eq_true hf]
    refine fail (.inr (by omega)) ?_
    rcases Decidable.em (1 ≤ q) with h | h
    · exact h
    ·
     exfalso
     have : q = 0 := by omega
     subst this
     omega
   ·
    rw [decide_eq_false hf]
    obtain ⟨k, rfl⟩ : ∃ m, k = m + 1 := ⟨k - 1, by omega⟩
    rw [bits_Div64.j4]
    simp only [Bool.false_eq_true, if_false]
    rw [g.done d (by omega), if_pos hs]
/-- Two digits: the quotient of U * 2^64 + u1 * 2^32 + u0 by y, where y has its highest bit. -/
theorem two_digits (y s a b U u1 u0 : Int) (hy : y = a * 4294967296 + b) (d : Div32 U u1 a b) (h0 : 0 ≤ u0) (h1 : u0 < 4294967296) (hs : 0 ≤ s) (k : Nat) (hk : 20 < k) :
  ∃ Q R, bits_Div64.l0 k y s a b U u1 u0 (U / a) (U - U / a * a) = some (Q, shr .u64 R s) ∧ U * 18446744073709551616 + u1 * 4294967296 + u0 = Q * y + R ∧ 0 ≤ R ∧ R < y ∧ 0 ≤ Q := by
 have ha0 := d.a0
 have ha1 := d.a1
 have hb0 := d.b0
 have hb1 := d.b1
 have hyp : 0 < y := by omega
 have hU0 := d.U0
 have hU1 := d.U1
 have hu0 := d.u0
 have hu1 := d.u1
 have g := Guess.first d
 have gr0 := g.r0
 obtain ⟨k', hk', e⟩ := l0_digit y s a b U u1 u0 d 2 k (U / a) (U - U / a * a) (by omega) (by omega) g
 rw [e]
 obtain ⟨k', rfl⟩ : ∃ m, k' = m + 1 := ⟨k' - 1, by omega⟩
 rw [bits_Div64.j2, if_neg (by omega)]
 have hn : 0 ≤ U * 4294967296 + u1 := by omega
 have q1lt : (U * 4294967296 + u1) / y < 4294967296 := (Int.ediv_lt_iff_lt_mul hyp).2 (by omega)
 have q10 : 0 ≤ (U * 4294967296 + u1) / y := Int.ediv_nonneg hn (by omega)
 have em := Int.emod_def (U * 4294967296 + u1) y
 have er0 : 0 ≤ (U * 4294967296 + u1) % y := Int.emod_nonneg _ (by omega)
 have er1 : (U * 4294967296 + u1) % y < y := Int.emod_lt_of_pos _ hyp
 have ey : y * ((U * 4294967296 + u1) / y) = (U * 4294967296 + u1) / y * y := Int.mul_comm _ _
 rw [ey] at em
 rw [← hy]
 generalize hQ1 : (U * 4294967296 + u1) / y = q1 at *
 generalize hV : (U * 4294967296 + u1) % y = V at *
 have wV : IntKind.u64.wrap ((IntKind.u64.wrap ((IntKind.u64.wrap (U * 4294967296)) + u1)) - (IntKind.u64.wrap (q1 * y))) = V := by
  simp only [wu64]
  generalize q1 * y = p at *
  omega
 rw [wV]
 have hap : 0 < a := by omega
 have va0 : 0 ≤ V / a := Int.ediv_nonneg er0 (by omega)
 have va1 : V / a * a ≤ V := Int.ediv_mul_le _ (by omega)
 have va2 : 0 ≤ V / a * a := Int.mul_nonneg va0 (by omega)
 have va3 : V / a ≤ V := Int.ediv_le_self _ er0
 have wt : IntKind.u64.wrap (Int.tdiv V a) = V / a := by
  rw [wu64, Int.tdiv_eq_ediv_of_nonneg er0]; omega
 rw [wt]
 have wm : IntKind.u64.wrap (V / a * a) = V / a * a := by rw [wu64]; omega
 have wr : IntKind.u64.wrap (V - V / a * a) = V - V / a * a := by rw [wu64]; omega
 rw [wm, wr]
 have d2 : Div32 V u0 a b := ⟨ha0, ha1, hb0, hb1, h0, h1, er0, by omega⟩
 have g2 := Guess.first d2
 have gr2 := g2.r0
 rw [l1_digit y s a b V u0 q1 V d2 hs 2 k' (V / a) (V - V / a * a) (by omega) (by omega) g2, ← hy]
 have n2 : 0 ≤ V * 4294967296 + u0 := by omega
 have q2lt : (V * 4294967296 + u0) / y < 4294967296 := (Int.ediv_lt_iff_lt_mul hyp).2 (by omega)
 have q20 : 0 ≤ (V * 4294967296 + u0) / y := Int.ediv_nonneg n2 (by omega)
 have em2 := Int.emod_def (V * 4294967296 + u0) y
 have fr0 : 0 ≤ (V * 4294967296 + u0) % y := Int.emod_nonneg _ (by omega)
 have fr1 : (V * 4294967296 + u0) % y < y := Int.emod_lt_of_pos _ hyp
 have ey2 : y * ((V * 4294967296 + u0) / y) = (V * 4294967296 + u0) / y * y := Int.mul_comm _ _
 rw [ey2] at em2
 generalize (V * 4294967296 + u0) / y = q2 at *
 generalize (V * 4294967296 + u0) % y = R at *
 have wR : IntKind.u64.wrap ((IntKind.u64.wrap ((IntKind.u64.wrap (V * 4294967296)) + u0)) - (IntKind.u64.wrap (q2 * y))) = R := by
  simp only [wu64]
  generalize q2 * y = p at *
  omega
 have wQ : IntKind.u64.wrap ((IntKind.u64.wrap (q1 * 4294967296)) + q2) = q1 * 4294967296 + q2 := by simp only [wu64]; omega
 rw [wR, wQ]
 refine ⟨_, _, rfl, ?_, fr0, fr1, by omega⟩
 have e3 : (q1 * 4294967296 + q2) * y = q1 * y * 4294967296 + q2 * y := by grind
 rw [e3]
 generalize q2 * y = p2 at *
 generalize q1 * y = p1 at *
 omega
theorem Div64_eq (hi lo y : Int) (h0 : 0 ≤ hi) (h1 : hi < y) (l0 : 0 ≤ lo) (l1 : lo < 18446744073709551616) (y1 : y < 18446744073709551616) (k : Nat) (hk : 30 < k) :
  bits_Div64.f k hi lo y = some ((hi * 18446744073709551616 + lo) / y, (hi * 18446744073709551616 + lo) % y) := by
 unfold bits_Div64.f
 rw [if_neg (by omega), if_neg (by omega)]
 have hy : 0 < y := by omega
 by_cases hz : hi = 0
 ·
  rw [if_pos hz, hz]
  have q0 : 0 ≤ lo / y := Int.ediv_nonneg l0 (by omega)
  have q1 : lo / y ≤ lo := Int.ediv_le_self _ l0
  rw [wu64, Int.tdiv_eq_ediv_of_nonneg l0, Int.tmod_eq_emod_of_nonneg l0]
  have e : (lo / y) % 18446744073709551616 = lo / y := by omega
  rw [e]; simp
 ·
  rw [if_neg hz]
  obtain ⟨k, rfl⟩ : ∃ m, k = m + 1 := ⟨k - 1, by omega⟩
  obtain ⟨L, eL, L1, L64, p1, p2⟩ := Len_eq k y hy y1
  unfold bits_LeadingZeros64.f
  rw [eL]
  simp only [Option.bind_some]
  have ws : IntKind.u64.wrap (wrap64 (64 - (L : Int))) = ((64 - L : Nat) : Int) := by rw [wu64]; unfold wrap64; omega
  have ws2 : IntKind.u64.wrap (64 - ((64 - L : Nat) : Int)) = (L : Int) := by rw [wu64]; omega
  rw [ws, ws2, if_pos (by omega), if_pos (by omega)]
  have esl : ∀ x : Int, shl .u64 x ((64 - L : Nat) : Int) = (x * 2 ^ (64 - L)) % 18446744073709551616 := fun x => by
   unfold shl
   rw [wu64, Int.toNat_natCast, show min (64 - L) IntKind.u64.bits = 64 - L from Nat.min_eq_left (by show 64 - L ≤ 64; omega)]
  have esr : ∀ x : Int, shr .u64 x (L : Int) = x / 2 ^ L := fun x => by
   unfold shr
   rw [Int.toNat_natCast, show min L IntKind.u64.bits = L from Nat.min_eq_left L64]
  have esr2 : ∀ x : Int, shr .u64 x ((64 - L : Nat) : Int) = x / 2 ^ (64 - L) := fun x => by
   unfold shr
   rw [Int.toNat_natCast, show min (64 - L) IntKind.u64.bits = 64 - L from Nat.min_eq_left (by show 64 - L ≤ 64; omega)]
  have hD : (0 : Int) < 2 ^ (64 - L) := Int.pow_pos (by decide)
  have hE : (0 : Int) < 2 ^ L := Int.pow_pos (by decide)
  have hDE : (2 : Int) ^ L * 2 ^ (64 - L) = 18446744073709551616 := by
   rw [← Int.pow_add, show L + (64 - L) = 64 by omega]; decide
  have hDE2 : (2 : Int) ^ (L - 1) * 2 ^ (64 - L) = 9223372036854775808 := by
   rw [← Int.pow_add, show L - 1 + (64 - L) = 63 by omega]; decide
  have hor : ∀ x z : Int, 0 ≤ x → x % 2 ^ (64 - L) = 0 → x < 18446744073709551616 → 0 ≤ z → z < 2 ^ (64 - L) → z < 18446744073709551616 → Go.bits .or .u64 x z = x + z := fun x z a1 a2 a3 a4 a5 a6 =>
   bits_join .u64 64 (by decide) (fun n a b => by rw [wu64]; omega) (64 - L) x z a1 a2 (by omega) a4 a5 (by omega)
  simp only [esl, esr]
  generalize hDd : (2 : Int) ^ (64 - L) = D at *
  generalize hEd : (2 : Int) ^ L = E at *
  generalize (2 : Int) ^ (L - 1) = E2 at *
  have yD1 : y * D < 18446744073709551616 := by
   rw [← hDE]; exact Int.mul_lt_mul_of_pos_right p2 hD
  have yD0 : 9223372036854775808 ≤ y * D := by
   rw [← hDE2]; exact Int.mul_le_mul_of_nonneg_right p1 (by omega)
  have ey : y * D % 18446744073709551616 = y * D := by omega
  rw [ey]
  have hD1 : hi * D ≤ (y - 1) * D := Int.mul_le_mul_of_nonneg_right (by omega) (by omega)
  have hD2 : (y - 1) * D = y * D - D := by grind
  have hD0 : 0 ≤ hi * D := Int.mul_nonneg h0 (by omega)
  have ehi : hi * D % 18446744073709551616 = hi * D := by omega
  rw [ehi]
  have lE0 : 0 ≤ lo / E := Int.ediv_nonneg l0 (by omega)
  have lE1 : lo / E < D := (Int.ediv_lt_iff_lt_mul hE).2 (by rw [Int.mul_comm, hDE]; exact l1)
  have elo : lo * D / 18446744073709551616 = lo / E := by
   rw [← hDE]; exact Int.mul_ediv_mul_of_pos_left lo E hD
  rw [hor (hi * D) (lo / E) hD0 (Int.mul_emod_left _ _) (by omega) lE0 lE1 (by omega), and32 (y * D) (by omega) (by omega), and32 _ (by omega) (by omega)]
  have lD0 : 0 ≤ lo * D := Int.mul_nonneg l0 (by omega)
  rw [if_neg (by omega)]
  have d : Div32 (hi * D + lo / E) (lo * D % 18446744073709551616 / 4294967296) (y * D / 4294967296) (y * D % 4294967296) := ⟨by omega, by omega, by omega, by omega, by omega, by omega, by omega, by omega⟩
  have hap : 0 < y * D / 4294967296 := by omega
  have U0 : 0 ≤ hi * D + lo / E := by omega
  have ua0 : 0 ≤ (hi * D + lo / E) / (y * D / 4294967296) := Int.ediv_nonneg U0 (by omega)
  have ua1 : (hi * D + lo / E) / (y * D / 4294967296) * (y * D / 4294967296) ≤ hi * D + lo / E := Int.ediv_mul_le _ (by omega)
  have ua2 : 0 ≤ (hi * D + lo / E) / (y * D / 4294967296) * (y * D / 4294967296) := Int.mul_nonneg ua0 (by omega)
  have ua3 : (hi * D + lo / E) / (y * D / 4294967296) ≤ hi * D + lo / E := Int.ediv_le_self _ U0
  have wt : IntKind.u64.wrap (Int.tdiv (hi * D + lo / E) (y * D / 4294967296)) = (hi * D + lo / E) / (y * D / 4294967296) := by
   rw [wu64, Int.tdiv_eq_ediv_of_nonneg U0]; omega
  rw [wt]
  have wm : IntKind.u64.wrap ((hi * D + lo / E) / (y * D / 4294967296) * (y * D / 4294967296)) = (hi * D + lo / E) / (y * D / 4294967296) * (y * D / 4294967296) := by rw [wu64]; omega
  have wr : IntKind.u64.wrap (hi * D + lo / E - (hi * D + lo / E) / (y * D / 4294967296) * (y * D / 4294967296)) = hi * D + lo / E - (hi * D + lo / E) / (y * D / 4294967296) * (y * D / 4294967296) := by rw [wu64]; omega
  rw [wm, wr]
  obtain ⟨Q, R, e, eQ, R0, R1, Q0⟩ := two_digits (y * D) ((64 - L : Nat) : Int) (y * D / 4294967296) (y * D % 4294967296) (hi * D + lo / E) (lo * D % 18446744073709551616 / 4294967296) (lo * D % 18446744073709551616 % 4294967296) (by omega) d (by omega) (by omega) (by omega) (k + 1) (by omega)
  rw [e, esr2]
  have hN : (hi * 18446744073709551616 + lo) * D = Q * (y * D) + R := by
   rw [← eQ]
   have e1 : (hi * 18446744073709551616 + lo) * D = hi * D * 18446744073709551616 + lo * D := by grind
   rw [e1]
   generalize hi * D = x at *
   generalize lo * D = z at *
   omega
  have hR : R = (hi * 18446744073709551616 + lo - Q * y) * D := by
   have : (hi * 18446744073709551616 + lo - Q * y) * D = (hi * 18446744073709551616 + lo) * D - Q * (y * D) := by grind
   rw [this, hN]; omega
  generalize hr : hi * 18446744073709551616 + lo - Q * y = r at *
  have r0 : 0 ≤ r := by
   rcases Decidable.em (0 ≤ r) with h | h
   · exact h
   ·
    exfalso
    have : r * D ≤ (-1) * D := Int.mul_le_mul_of_nonneg_right (by omega) (by omega)
    omega
  have r1 : r < y := by
   rcases Decidable.em (r < y) with h | h
   · exact h
   ·
    exfalso
    have : y * D ≤ r * D := Int.mul_le_mul_of_nonneg_right (by omega) (by omega)
    omega
  have eR : R / D = r := by rw [hR]; exact Int.mul_ediv_cancel _ (by omega)
  rw [eR]
  obtain ⟨g1, g2⟩ := (Int.ediv_emod_unique hy).2 (⟨by rw [← hr]; grind, r0, r1⟩ : r + y * Q = hi * 18446744073709551616 + lo ∧ 0 ≤ r ∧ r < y)
  rw [g1, g2]
/-- A product over a number, cut down, or up. -/
def divS (a b c : Int) (up : Bool) : Int := if up = true then -((-(a * b)) / c) else a * b / c
/-- A number of 64 bits with a sign. -/
def In64 (n : Int) : Prop := -9223372036854775808 ≤ n ∧ n ≤ 9223372036854775807
instance (n : Int) : Decidable (In64 n) := by unfold In64; infer_instance
theorem size_eq (a : Int) (h : In64 a) : fix_size.f a = some (if a < 0 then -a else a, decide (a < 0)) := by
 obtain ⟨h0, h1⟩ := h
 unfold fix_size.f
 by_cases hn : a < 0
 ·
  rw [if_pos hn, if_pos hn, decide_eq_true hn, wu64, wu64]
  have : -(a % 18446744073709551616) % 18446744073709551616 = -a := by omega
  rw [this]
 ·
  rw [if_neg hn, if_neg hn, decide_eq_false hn, wu64]
  have : a % 18446744073709551616 = a := by omega
  rw [this]
theorem signed_eq (n : Int) (below : Bool) (h0 : 0 ≤ n) (h1 : n < 18446744073709551616) (k : Nat) :
  fix_signed.f (k + 1) n below = some (if In64 (if below = true then -n else n) then (if below = true then -n else n, true) else (0, false)) := by
 unfold fix_signed.f
 cases below with
 | true =>
  simp only [if_true]
  rw [fix_signed.j0]
  by_cases h : n ≤ 9223372036854775808
  ·
   rw [decide_eq_true h, if_pos rfl, if_pos (by unfold In64; omega)]
   have : wrap64 (-(wrap64 n)) = -n := by unfold wrap64; omega
   rw [this]
  ·
   rw [decide_eq_false h]
   simp only [Bool.false_eq_true, if_false, if_true]
   rw [if_neg (by unfold In64; omega)]
 | false =>
  simp only [Bool.false_eq_true, if_false]
  rw [fix_signed.j0]
  simp only [Bool.false_eq_true, if_false]
  by_cases h : n < 9223372036854775808
  ·
   rw [if_pos h, if_pos (by unfold In64; omega)]
   have : wrap64 n = n := by unfold wrap64; omega
   rw [this]
  · rw [if_neg h, if_neg (by unfold In64; omega)]
theorem or_ne (x y : Int) (x0 : 0 ≤ x) (x1 : x < 18446744073709551616) (y0 : 0 ≤ y) (y1 : y < 18446744073709551616) : (Go.bits .or .u64 x y != 0) = decide (x ≠ 0 ∨ y ≠ 0) := by
 obtain ⟨a, rfl⟩ := Int.eq_ofNat_of_zero_le x0
 obtain ⟨b, rfl⟩ := Int.eq_ofNat_of_zero_le y0
 rw [(bits_nat .u64 64 (by decide) (fun n a b => by rw [wu64]; omega) a b (by omega) (by omega)).2]
 rw [Bool.eq_iff_iff]
 simp only [bne_iff_ne, ne_eq, decide_eq_true_eq]
 have := @Nat.or_eq_zero_iff a b
 omega
theorem neg_div (A c : Int) (hc : 0 < c) : (-A) / c = -(A / c) - (if A % c > 0 then 1 else 0) := by
 have e := Int.emod_add_mul_ediv A c
 have m0 := Int.emod_nonneg A (show c ≠ 0 by omega)
 have m1 := Int.emod_lt_of_pos A hc
 generalize hq : A / c = q at *
 generalize hr : A % c = r at *
 by_cases h : r > 0
 ·
  rw [if_pos h]
  have e2 : c * (-q - 1) = -(c * q) - c := by grind
  exact ((Int.ediv_emod_unique hc).2 (⟨by rw [e2]; omega, by omega, by omega⟩ : (c - r) + c * (-q - 1) = -A ∧ 0 ≤ c - r ∧ c - r < c)).1
 ·
  rw [if_neg h]
  have e2 : c * (-q - 0) = -(c * q) := by grind
  exact ((Int.ediv_emod_unique hc).2 (⟨by rw [e2]; omega, by omega, by omega⟩ : 0 + c * (-q - 0) = -A ∧ (0 : Int) ≤ 0 ∧ (0 : Int) < c)).1
theorem abs_mul (a b : Int) : (if a < 0 then -a else a) * (if b < 0 then -b else b) = if (a < 0) ≠ (b < 0) then -(a * b) else a * b := by
 by_cases h1 : a < 0 <;> by_cases h2 : b < 0 <;> simp [h1, h2] <;> grind
theorem Div_eq (a b c : Int) (up : Bool) (ha : In64 a) (hb : In64 b) (hc : 0 < c) (hc1 : c ≤ 9223372036854775807) (k : Nat) (hk : 40 < k) :
  fix_Div.f k a b c up = some (if In64 (divS a b c up) then (divS a b c up, true) else (0, false)) := by
 unfold fix_Div.f
 rw [if_neg (by omega), size_eq a ha, size_eq b hb]
 simp only [Option.bind_some]
 have hx0 : 0 ≤ (if a < 0 then -a else a) ∧ (if a < 0 then -a else a) ≤ 9223372036854775808 := by unfold In64 at ha; split <;> omega
 have hy0 : 0 ≤ (if b < 0 then -b else b) ∧ (if b < 0 then -b else b) ≤ 9223372036854775808 := by unfold In64 at hb; split <;> omega
 have hab := abs_mul a b
 generalize hx : (if a < 0 then -a else a) = x at *
 generalize hy : (if b < 0 then -b else b) = y at *
 rw [Wide_eq x y hx0.1 (by omega) hy0.1 (by omega)]
 simp only [Option.bind_some]
 have wc : IntKind.u64.wrap c = c := by rw [wu64]; omega
 rw [wc]
 have A0 : 0 ≤ x * y := Int.mul_nonneg hx0.1 hy0.1
 have A1 : x * y ≤ 9223372036854775808 * 9223372036854775808 := Int.mul_le_mul hx0.2 hy0.2 hy0.1 (by omega)
 have hbe : (decide (a < 0) != decide (b < 0)) = decide ((a < 0) ≠ (b < 0)) := by
  by_cases h1 : a < 0 <;> by_cases h2 : b < 0 <;> simp [h1, h2]
 have hP : a * b = if ((a < 0) ≠ (b < 0)) then -(x * y) else x * y := by
  rw [hab]; split <;> omega
 generalize hA : x * y = A at *
 have hq : A / c * c ≤ A := Int.ediv_mul_le _ (by omega)
 have hr0 : 0 ≤ A % c := Int.emod_nonneg _ (by omega)
 have hq0 : 0 ≤ A / c := Int.ediv_nonneg A0 (by omega)
 have hS : divS a b c up = (if ((a < 0) ≠ (b < 0)) then -(A / c + (if A % c > 0 ∧ up = false then 1 else 0)) else (A / c + (if A % c > 0 ∧ up = true then 1 else 0))) := by
  have hn := neg_div A c hc
  unfold divS
  rw [hP]
  cases up <;> by_cases h : ((a < 0) ≠ (b < 0)) <;> simp only [if_pos h, if_neg h, Bool.false_eq_true, if_false, if_true, and_true, and_false, Int.neg_neg, reduceCtorEq]
  · rw [hn]; split <;> omega
  · omega
  · omega
  · rw [hn]; split <;> omega
 by_cases hbig : A / 18446744073709551616 ≥ c
 ·
  rw [if_pos hbig]
  have h2 : 18446744073709551616 ≤ A / c := (Int.le_ediv_iff_mul_le hc).2 (by omega)
  have hno : ¬ In64 (divS a b c up) := by
   rw [hS]; unfold In64
   split <;> split <;> omega
  rw [if_neg hno]
 ·
  rw [if_neg hbig]
  have em : A / 18446744073709551616 * 18446744073709551616 + A % 18446744073709551616 = A := by omega
  rw [Div64_eq _ _ c (by omega) (by omega) (by omega) (by omega) (by omega) k (by omega), em]
  simp only [Option.bind_some]
  have hq1 : A / c < 18446744073709551616 := (Int.ediv_lt_iff_lt_mul hc).2 (by omega)
  have hj : ∀ below : Bool, (below = true → ((a < 0) ≠ (b < 0))) → (below = false → ¬ ((a < 0) ≠ (b < 0)) ∨ A = 0) →
    fix_Div.j0 k up (A / c) (A % c) below = some (if In64 (divS a b c up) then (divS a b c up, true) else (0, false)) := by
   intro below hb1 hb2
   have hval : divS a b c up = if below = true then -(A / c + (if A % c > 0 ∧ up ≠ below then 1 else 0)) else (A / c + (if A % c > 0 ∧ up ≠ below then 1 else 0)) := by
    rw [hS]
    cases below with
    | true => rw [if_pos (hb1 rfl), if_pos rfl]; cases up <;> simp
    | false =>
     rcases hb2 rfl with h | h
     · simp only [if_neg h, Bool.false_eq_true, if_false]; cases up <;> simp
     ·
      subst h
      simp
   obtain ⟨k, rfl⟩ : ∃ m, k = m + 1 := ⟨k - 1, by omega⟩
   rw [fix_Div.j0]
   obtain ⟨k, rfl⟩ : ∃ m, k = m + 1 := ⟨k - 1, by omega⟩
   have plain : ¬ (A % c > 0 ∧ up ≠ below) → fix_Div.j1 (k + 1) (A / c) below false = some (if In64 (divS a b c up) then (divS a b c up, true) else (0, false)) := by
    intro hn
    rw [fix_Div.j1]
    simp only [Bool.false_eq_true, if_false]
    obtain ⟨k, rfl⟩ : ∃ m, k = m + 1 := ⟨k - 1, by omega⟩
    rw [signed_eq _ below hq0 hq1, hval, if_neg hn, Int.add_zero]
    rfl
   by_cases hr : A % c > 0
   ·
    rw [if_pos hr]
    by_cases hu : up = below
    ·
     have : (up != below) = false := by rw [hu]; simp
     rw [this]; exact plain (fun h => h.2 hu)
    ·
     have : (up != below) = true := by simpa using hu
     rw [this, fix_Div.j1]
     simp only [if_true]
     have hval2 : divS a b c up = if below = true then -(A / c + 1) else (A / c + 1) := by rw [hval]; simp only [if_pos (show A % c > 0 ∧ up ≠ below from ⟨hr, hu⟩)]
     by_cases ho : A / c + 1 = 18446744073709551616
     ·
      have w0 : IntKind.u64.wrap (A / c + 1) = 0 := by rw [wu64, ho]; decide
      rw [w0, if_pos rfl, if_neg (by rw [hval2]; unfold In64; split <;> omega)]
     ·
      have w0 : IntKind.u64.wrap (A / c + 1) = A / c + 1 := by rw [wu64]; omega
      rw [w0, if_neg (by omega)]
      obtain ⟨k, rfl⟩ : ∃ m, k = m + 1 := ⟨k - 1, by omega⟩
      rw [signed_eq _ below (by omega) (by omega), hval2]
      rfl
   · rw [if_neg hr]; exact plain (fun h => hr h.1)
  rw [hbe]
  by_cases hne : ((a < 0) ≠ (b < 0))
  ·
   rw [decide_eq_true hne]
   simp only [if_true]
   rw [or_ne _ _ (by omega) (by omega) (by omega) (by omega)]
   refine hj _ (fun _ => hne) (fun h => .inr ?_)
   have := of_decide_eq_false h
   omega
  ·
   rw [decide_eq_false hne]
   simp only [Bool.false_eq_true, if_false]
   exact hj false (fun h => by simp at h) (fun _ => .inl hne)
theorem step_div (M c b : Nat) (hc : 0 < c) (hb : b < 2) (hr : 2 * (M % c) + b < c) : (2 * M + b) / c = 2 * (M / c) ∧ (2 * M + b) % c = 2 * (M % c) + b := by
 have e : 2 * M + b = c * (2 * (M / c)) + (2 * (M % c) + b) := by have := Nat.div_add_mod M c; grind
 rw [e, Nat.mul_add_div hc, Nat.mul_add_mod, Nat.div_eq_of_lt hr, Nat.mod_eq_of_lt hr]
 exact ⟨rfl, rfl⟩
theorem step_div1 (M c b : Nat) (hc : 0 < c) (hb : b < 2) (hr : c ≤ 2 * (M % c) + b) : (2 * M + b) / c = 2 * (M / c) + 1 ∧ (2 * M + b) % c = 2 * (M % c) + b - c := by
 have hm := Nat.mod_lt M hc
 have e : 2 * M + b = c * (2 * (M / c) + 1) + (2 * (M % c) + b - c) := by have := Nat.div_add_mod M c; grind
 have h2 : 2 * (M % c) + b - c < c := by omega
 rw [e, Nat.mul_add_div hc, Nat.mul_add_mod, Nat.div_eq_of_lt h2, Nat.mod_eq_of_lt h2]
 exact ⟨rfl, rfl⟩
theorem half_div (N n : Nat) : N / 2 ^ n = 2 * (N / 2 ^ (n + 1)) + N / 2 ^ n % 2 := by
 have : N / 2 ^ (n + 1) = N / 2 ^ n / 2 := by rw [Nat.pow_succ, Nat.div_div_eq_div_mul]
 rw [this]; omega
theorem bit_hi (N i : Nat) : N / 2 ^ 64 / 2 ^ i % 2 = N / 2 ^ (64 + i) % 2 := by rw [Nat.div_div_eq_div_mul, ← Nat.pow_add]
theorem bit_lo (N i : Nat) (h : i < 64) : N % 2 ^ 64 / 2 ^ i % 2 = N / 2 ^ i % 2 := by
 rw [← Nat.toNat_testBit, ← Nat.toNat_testBit, Nat.testBit_mod_two_pow, decide_eq_true h, Bool.true_and]
theorem wu64n (n : Nat) (h : n < 2 ^ 64) : IntKind.u64.wrap (n : Int) = (n : Int) := by
 rw [wu64]
 have : n < 18446744073709551616 := h
 omega
theorem u64_nat (a b : Nat) (ha : a < 2 ^ 64) (hb : b < 2 ^ 64) : Go.bits .and .u64 a b = ((a &&& b : Nat) : Int) ∧ Go.bits .or .u64 a b = ((a ||| b : Nat) : Int) :=
 bits_nat .u64 64 (by decide) (fun n a b => by rw [wu64]; omega) a b ha hb
theorem shr_nat (x i : Nat) (hi : i < 64) : shr .u64 (x : Int) (i : Int) = ((x / 2 ^ i : Nat) : Int) := by
 unfold shr
 rw [Int.toNat_natCast, Nat.min_eq_left (show i ≤ IntKind.u64.bits by simp [IntKind.bits]; omega)]
 simp
theorem shl_one (i : Nat) (hi : i < 64) : shl .u64 1 (i : Int) = ((2 ^ i : Nat) : Int) := by
 unfold shl
 rw [Int.toNat_natCast, Nat.min_eq_left (show i ≤ IntKind.u64.bits by simp [IntKind.bits]; omega), Int.one_mul]
 have h : (2 : Nat) ^ i < 2 ^ 64 := Nat.pow_lt_pow_right (by omega) hi
 have := wu64n (2 ^ i) h
 rw [← this]
 simp
theorem and_one (x : Nat) (h : x < 2 ^ 64) : Go.bits .and .u64 (x : Int) 1 = ((x % 2 : Nat) : Int) := by
 have := (u64_nat x 1 h (by decide)).1
 rw [show ((1 : Nat) : Int) = 1 from rfl] at this
 rw [this, Nat.and_one_is_mod]
theorem or_bit (r b : Nat) (hr : r < 2 ^ 63) (hb : b < 2) : Go.bits .or .u64 (IntKind.u64.wrap ((r : Int) * 2)) (b : Int) = ((2 * r + b : Nat) : Int) := by
 have e : (r : Int) * 2 = ((2 * r : Nat) : Int) := by omega
 have h1 : 2 * r < 2 ^ 64 := by omega
 rw [e, wu64n _ h1, (u64_nat (2 * r) b h1 (by omega)).2]
 have := Nat.two_pow_add_eq_or_of_lt (i := 1) (b := b) (by omega) r
 rw [Nat.pow_one] at this
 rw [← this]
theorem or_pow (Q i : Nat) (h : Q * 2 ^ (i + 1) < 2 ^ 64) (hi : i < 64) : Go.bits .or .u64 ((Q * 2 ^ (i + 1) : Nat) : Int) ((2 ^ i : Nat) : Int) = (((2 * Q + 1) * 2 ^ i : Nat) : Int) := by
 have h2 : (2 : Nat) ^ i < 2 ^ 64 := Nat.pow_lt_pow_right (by omega) hi
 rw [(u64_nat _ _ h h2).2]
 have := Nat.two_pow_add_eq_or_of_lt (i := i + 1) (b := 2 ^ i) (Nat.pow_lt_pow_right (by omega) (by omega)) Q
 rw [Nat.mul_comm Q, ← this, Nat.pow_succ]
 congr 1
 grind
theorem q_bd (N c n : Nat) (h : N / 2 ^ 64 / c = 0) : N / 2 ^ n / c * 2 ^ n < 2 ^ 64 := by
 have h1 : N / c < 2 ^ 64 := by
  rw [Nat.div_div_eq_div_mul, Nat.mul_comm, ← Nat.div_div_eq_div_mul] at h
  rcases Nat.div_eq_zero_iff.1 h with h | h
  · exact absurd h (by decide)
  · exact h
 have h2 : N / 2 ^ n / c = N / c / 2 ^ n := by rw [Nat.div_div_eq_div_mul, Nat.mul_comm, ← Nat.div_div_eq_div_mul]
 rw [h2]
 exact Nat.lt_of_le_of_lt (Nat.div_mul_le_self _ _) h1
theorem i_and63 (i : Nat) (h : i < 64) : IntKind.u64.wrap (Go.bits .and .i64 (i : Int) 63) = (i : Int) := by
 have := bits_mask .i64 63 (by decide) (fun n a b => by rw [IntKind.wrap_i64]; omega) 6 (by decide) (i : Int) (by omega) (by omega)
 have e : Go.bits .and .i64 (i : Int) 63 = (i : Int) % 64 := by simpa using this
 rw [e, wu64]; omega
theorem over_bit (N c : Nat) (i : Nat) (hN : N < 2 ^ 128) (hi : i < 128) (k : Nat) (x9 x10 : Int) (x11 : Bool) :
  pledgeref1_over.l0 (k + 1) ((N / 2 ^ 64 : Nat) : Int) ((N % 2 ^ 64 : Nat) : Int) (c : Int) x9 x10 x11 (i : Int) =
  pledgeref1_over.j1 k ((N / 2 ^ 64 : Nat) : Int) ((N % 2 ^ 64 : Nat) : Int) (c : Int) x9 x10 x11 (i : Int) (x10 / 9223372036854775808) ((N / 2 ^ i % 2 : Nat) : Int) := by
 simp only [pledgeref1_over.l0]
 have hH : N / 2 ^ 64 < 2 ^ 64 := by rw [Nat.div_lt_iff_lt_mul (by decide), ← Nat.pow_add]; exact hN
 have hL : N % 2 ^ 64 < 2 ^ 64 := Nat.mod_lt _ (by decide)
 rw [if_pos (by omega)]
 have h0 : 0 ≤ IntKind.u64.wrap (Go.bits .and .i64 (i : Int) 63) := by rw [wu64]; omega
 rw [if_pos h0]
 by_cases h : 64 ≤ i
 ·
  have e1 : wrap64 ((i : Int) - 64) = ((i - 64 : Nat) : Int) := by rw [w64s _ (by omega) (by omega)]; omega
  have e2 : IntKind.u64.wrap ((i - 64 : Nat) : Int) = ((i - 64 : Nat) : Int) := by rw [wu64]; omega
  rw [if_pos (by omega), e1, e2, if_pos (by omega), shr_nat _ _ (by omega), and_one _ (Nat.lt_of_le_of_lt (Nat.div_le_self _ _) hH), bit_hi, show 64 + (i - 64) = i by omega]
 · rw [if_neg (by omega), i_and63 i (by omega), shr_nat _ _ (by omega), and_one _ (Nat.lt_of_le_of_lt (Nat.div_le_self _ _) hL), bit_lo _ _ (by omega)]
theorem over_all (N c : Nat) (hN : N < 2 ^ 128) (hc : 0 < c) (hc2 : c < 2 ^ 63) : ∀ (n : Nat), n ≤ 128 → ∀ (k : Nat) (q : Int) (fits : Bool), 3 * n + 3 < k →
  (fits = true ↔ N / 2 ^ (max n 64) / c = 0) → (fits = true → q = ((N / 2 ^ n / c * 2 ^ n : Nat) : Int)) →
  ∃ q' : Int, pledgeref1_over.l0 k ((N / 2 ^ 64 : Nat) : Int) ((N % 2 ^ 64 : Nat) : Int) (c : Int) q ((N / 2 ^ n % c : Nat) : Int) fits ((n : Int) - 1) = some (q', ((N % c : Nat) : Int), decide (N / 2 ^ 64 / c = 0)) ∧
   (N / 2 ^ 64 / c = 0 → q' = ((N / c : Nat) : Int)) := by
 intro n
 induction n with
 | zero =>
  intro _ k q fits hk hf hq
  obtain ⟨k, rfl⟩ : ∃ m, k = m + 1 := ⟨k - 1, by omega⟩
  simp only [pledgeref1_over.l0]
  rw [if_neg (by omega)]
  have e : N / 2 ^ 0 = N := by simp
  have em : max 0 64 = 64 := rfl
  rw [em] at hf
  rw [e] at hq ⊢
  refine ⟨q, ?_, fun h => ?_⟩
  ·
   have : fits = decide (N / 2 ^ 64 / c = 0) := by rw [Bool.eq_iff_iff, decide_eq_true_eq]; exact hf
   rw [this]
  · rw [hq (hf.2 h)]; simp
 | succ i ih =>
  intro hn k q fits hk hf hq
  have hn' : i < 128 := by omega
  obtain ⟨k, rfl⟩ : ∃ m, k = m + 1 := ⟨k - 1, by omega⟩
  obtain ⟨k1, hk1⟩ : ∃ m, k = m + 1 := ⟨k - 1, by omega⟩
  obtain ⟨k2, hk2⟩ : ∃ m, k1 = m + 1 := ⟨k1 - 1, by omega⟩
  have e1 : ((i + 1 : Nat) : Int) - 1 = (i : Int) := by omega
  have hr := Nat.mod_lt (N / 2 ^ (i + 1)) hc
  have hb : N / 2 ^ i % 2 < 2 := Nat.mod_lt _ (by omega)
  have hM := half_div N i
  have hih := ih (by omega) k2
  rw [e1, over_bit N c i hN hn' k]
  have ht : ((N / 2 ^ (i + 1) % c : Nat) : Int) / 9223372036854775808 = 0 := by
   have : N / 2 ^ (i + 1) % c < 9223372036854775808 := Nat.lt_trans hr hc2
   omega
  have ho := or_bit (N / 2 ^ (i + 1) % c) (N / 2 ^ i % 2) (Nat.lt_trans hr hc2) hb
  have hk' : 3 * i + 3 < k2 := by omega
  rw [ht, hk1]
  simp only [pledgeref1_over.j1]
  rw [if_neg (by omega), ho, hk2]
  simp only [pledgeref1_over.j2]
  have ew : wrap64 ((i : Int) - 1) = (i : Int) - 1 := w64s _ (by omega) (by omega)
  rw [ew]
  clear hk hk1 hk2
  by_cases h : c ≤ 2 * (N / 2 ^ (i + 1) % c) + N / 2 ^ i % 2
  ·
   obtain ⟨d1, d2⟩ := step_div1 (N / 2 ^ (i + 1)) c (N / 2 ^ i % 2) hc hb h
   rw [← hM] at d1 d2
   rw [decide_eq_true (show ((2 * (N / 2 ^ (i + 1) % c) + N / 2 ^ i % 2 : Nat) : Int) ≥ (c : Int) by omega)]
   simp only [if_true]
   have er : IntKind.u64.wrap (((2 * (N / 2 ^ (i + 1) % c) + N / 2 ^ i % 2 : Nat) : Int) - (c : Int)) = ((N / 2 ^ i % c : Nat) : Int) := by
    have hc3 : c < 9223372036854775808 := hc2
    rw [wu64, d2]; omega
   rw [er]
   by_cases h64 : 64 ≤ i
   ·
    rw [if_pos (by omega)]
    refine hih q false hk' ⟨fun x => by simp at x, fun x => ?_⟩ (fun x => by simp at x)
    rw [Nat.max_eq_left h64, d1] at x
    omega
   ·
    have ewi : IntKind.u64.wrap (i : Int) = (i : Int) := by rw [wu64]; omega
    rw [if_neg (by omega), ewi, if_pos (by omega), shl_one i (by omega)]
    have m1 : max i 64 = 64 := Nat.max_eq_right (by omega)
    have m2 : max (i + 1) 64 = 64 := Nat.max_eq_right (by omega)
    rw [m2] at hf
    refine hih _ fits hk' (by rw [m1]; exact hf) (fun x => ?_)
    rw [hq x, or_pow _ _ (q_bd N c (i + 1) (hf.1 x)) (by omega), d1]
  ·
   obtain ⟨d1, d2⟩ := step_div (N / 2 ^ (i + 1)) c (N / 2 ^ i % 2) hc hb (by omega)
   rw [← hM] at d1 d2
   rw [decide_eq_false (show ¬ ((2 * (N / 2 ^ (i + 1) % c) + N / 2 ^ i % 2 : Nat) : Int) ≥ (c : Int) by omega)]
   simp only [Bool.false_eq_true, if_false]
   rw [← d2]
   refine hih q fits hk' ?_ (fun x => ?_)
   ·
    by_cases h64 : 64 ≤ i
    ·
     rw [Nat.max_eq_left (show 64 ≤ i + 1 by omega)] at hf
     rw [Nat.max_eq_left h64, d1, hf]
     omega
    ·
     rw [Nat.max_eq_right (show i + 1 ≤ 64 by omega)] at hf
     rw [Nat.max_eq_right (show i ≤ 64 by omega)]; exact hf
   ·
    rw [hq x, d1, Nat.pow_succ]
    congr 1
    grind
theorem over_eq_ref (N c : Nat) (hN : N < 2 ^ 128) (hc : 0 < c) (hc2 : c < 2 ^ 63) (k : Nat) (hk : 400 < k) :
  ∃ q' : Int, pledgeref1_over.f k ((N / 2 ^ 64 : Nat) : Int) ((N % 2 ^ 64 : Nat) : Int) (c : Int) = some (q', ((N % c : Nat) : Int), decide (N / 2 ^ 64 / c = 0)) ∧ (N / 2 ^ 64 / c = 0 → q' = ((N / c : Nat) : Int)) := by
 have e : N / 2 ^ 128 = 0 := Nat.div_eq_of_lt hN
 have h := over_all N c hN hc hc2 128 (by omega) k 0 true (by omega) (by rw [show max 128 64 = 128 from rfl, e]; simp) (fun _ => by rw [e]; simp)
 rw [e, Nat.zero_mod] at h
 exact h
theorem or32 (x y : Int) (hx : 0 ≤ x) (hx1 : x < 4294967296) (hy : 0 ≤ y) (hy1 : y < 4294967296) : Go.bits .or .u64 (x * 4294967296) y = x * 4294967296 + y := by
 obtain ⟨a, rfl⟩ := Int.eq_ofNat_of_zero_le hx
 obtain ⟨b, rfl⟩ := Int.eq_ofNat_of_zero_le hy
 have e : (a : Int) * 4294967296 = ((2 ^ 32 * a : Nat) : Int) := by omega
 have hb : b < 2 ^ 32 := by omega
 rw [e, (u64_nat (2 ^ 32 * a) b (by omega) (by omega)).2, ← Nat.two_pow_add_eq_or_of_lt hb a]
 omega
theorem RWide_eq (a b : Int) (ha0 : 0 ≤ a) (ha1 : a < 18446744073709551616) (hb0 : 0 ≤ b) (hb1 : b < 18446744073709551616) :
  pledgeref1_Wide.f a b = some (a * b / 18446744073709551616, a * b % 18446744073709551616) := by
 unfold pledgeref1_Wide.f
 simp only [wu64, and32 a ha0 ha1, and32 b hb0 hb1]
 have e := split32 a b
 obtain ⟨q1, q2⟩ := pb (a / 4294967296) (b / 4294967296) (by omega) (by omega) (by omega) (by omega)
 obtain ⟨q3, q4⟩ := pb (a / 4294967296) (b % 4294967296) (by omega) (by omega) (by omega) (by omega)
 obtain ⟨q5, q6⟩ := pb (a % 4294967296) (b / 4294967296) (by omega) (by omega) (by omega) (by omega)
 obtain ⟨q7, q8⟩ := pb (a % 4294967296) (b % 4294967296) (by omega) (by omega) (by omega) (by omega)
 generalize a / 4294967296 * (b / 4294967296) = p11 at *
 generalize a / 4294967296 * (b % 4294967296) = p10 at *
 generalize a % 4294967296 * (b / 4294967296) = p01 at *
 generalize a % 4294967296 * (b % 4294967296) = p00 at *
 generalize a * b = p at *
 clear ha0 ha1 hb0 hb1
 rw [Int.emod_eq_of_lt q7 (show p00 < 18446744073709551616 by omega), and32 p00 (by omega) (by omega)]
 rw [Int.emod_eq_of_lt (show 0 ≤ p10 by omega) (show p10 < 18446744073709551616 by omega)]
 rw [Int.emod_eq_of_lt (show 0 ≤ p10 + p00 / 4294967296 by omega) (show p10 + p00 / 4294967296 < 18446744073709551616 by omega)]
 rw [and32 (p10 + p00 / 4294967296) (by omega) (by omega)]
 rw [Int.emod_eq_of_lt (show 0 ≤ p01 by omega) (show p01 < 18446744073709551616 by omega)]
 generalize hm : p10 + p00 / 4294967296 = m at *
 rw [Int.emod_eq_of_lt (show 0 ≤ p01 + m % 4294967296 by omega) (show p01 + m % 4294967296 < 18446744073709551616 by omega)]
 generalize hn : p01 + m % 4294967296 = n at *
 have en : n * 4294967296 % 18446744073709551616 = n % 4294967296 * 4294967296 := by omega
 rw [en, or32 _ _ (by omega) (by omega) (by omega) (by omega)]
 congr 2
 · omega
 · omega
theorem Rsize_eq (a : Int) (h : In64 a) : pledgeref1_size.f a = some (if a < 0 then -a else a) := by
 obtain ⟨h0, h1⟩ := h
 unfold pledgeref1_size.f
 by_cases hn : a < 0
 ·
  rw [if_pos hn, if_pos hn, w64 (a + 1) (by omega) (by omega), w64 _ (by omega) (by omega), wu64, wu64]
  congr 1; omega
 ·
  rw [if_neg hn, if_neg hn, wu64]
  congr 1; omega
theorem Rsigned_eq (neg : Bool) (n : Int) (h0 : 0 ≤ n) (h1 : n < 18446744073709551616) :
  pledgeref1_signed.f neg n = some (if In64 (if neg = true then -n else n) then (if neg = true then -n else n, true) else (0, false)) := by
 unfold pledgeref1_signed.f
 cases neg with
 | true =>
  simp only [if_true]
  by_cases h : n > 9223372036854775808
  ·
   have : ¬ In64 (-n) := by unfold In64; omega
   rw [if_pos h, if_neg this]
  ·
   have : In64 (-n) := by unfold In64; omega
   rw [if_neg h, if_pos this]
   by_cases hz : n = 0
   · subst hz; rfl
   ·
    rw [if_neg hz, wu64]
    congr 2
    have e : (n - 1) % 18446744073709551616 = n - 1 := by omega
    rw [e, w64 (n - 1) (by omega) (by omega), w64 (-(n - 1)) (by omega) (by omega), w64 _ (by omega) (by omega)]
    omega
 | false =>
  simp only [Bool.false_eq_true, if_false]
  by_cases h : n > 9223372036854775807
  ·
   have : ¬ In64 n := by unfold In64; omega
   rw [if_pos h, if_neg this]
  ·
   have : In64 n := by unfold In64; omega
   rw [if_neg h, if_pos this, w64 n (by omega) (by omega)]
theorem RDiv_j0 (k : Nat) (neg b : Bool) (q : Int) (h0 : 0 ≤ q) (h1 : q < 18446744073709551616) :
  pledgeref1_Div.j0 (k + 1) neg q b = some (if In64 (if neg = true then -(q + if b = true then 1 else 0) else q + if b = true then 1 else 0) then (if neg = true then -(q + if b = true then 1 else 0) else q + if b = true then 1 else 0, true) else (0, false)) := by
 simp only [pledgeref1_Div.j0]
 cases b with
 | true =>
  simp only [if_true]
  by_cases hq : q = 18446744073709551615
  ·
   have : ¬ In64 (if neg = true then -(q + 1) else q + 1) := by unfold In64; split <;> omega
   rw [if_pos hq, if_neg this]
  ·
   have e : IntKind.u64.wrap (q + 1) = q + 1 := by rw [wu64]; omega
   rw [if_neg hq, e, Rsigned_eq neg (q + 1) (by omega) (by omega)]
   rfl
 | false =>
  simp only [Bool.false_eq_true, if_false, Int.add_zero]
  rw [Rsigned_eq neg q h0 h1]
  rfl
/-- The quotient by its size and its side. -/
theorem divS_size (a b c : Int) (up : Bool) (hc : 0 < c) (P : Int) (hP : P = (if a < 0 then -a else a) * (if b < 0 then -b else b)) :
  divS a b c up = if (decide (a < 0) != decide (b < 0)) = true then -(P / c + if P % c ≠ 0 ∧ up = false then 1 else 0) else P / c + if P % c ≠ 0 ∧ up = true then 1 else 0 := by
 have hab := abs_mul a b
 rw [← hP] at hab
 have m0 := Int.emod_nonneg P (show c ≠ 0 by omega)
 have hm : ∀ x : Int, 0 ≤ x → ((x > 0) ↔ x ≠ 0) := fun x h => by omega
 have hn := neg_div P c hc
 unfold divS
 by_cases hneg : (a < 0) ≠ (b < 0)
 ·
  rw [if_pos hneg] at hab
  have e : a * b = -P := by omega
  have e2 : (decide (a < 0) != decide (b < 0)) = true := by
   simp only [bne_iff_ne, ne_eq, decide_eq_decide]; intro x; exact hneg (propext x)
  rw [if_pos e2, e, Int.neg_neg, hn]
  cases up with
  | true => simp
  | false =>
   simp only [Bool.false_eq_true, if_false, and_true]
   by_cases hz : P % c = 0
   · simp [hz]
   · rw [if_pos (by omega), if_pos hz]; omega
 ·
  rw [if_neg hneg] at hab
  have e2 : ¬ (decide (a < 0) != decide (b < 0)) = true := by
   simp only [bne_iff_ne, ne_eq, decide_eq_decide, Decidable.not_not]
   exact iff_of_eq (Decidable.not_not.1 hneg)
  rw [if_neg e2, ← hab]
  cases up with
  | true =>
   simp only [if_true, and_true]
   rw [hn]
   by_cases hz : P % c = 0
   · simp [hz]
   · rw [if_pos (by omega), if_pos hz]; omega
  | false => simp
theorem RDiv_eq (a b c : Int) (up : Bool) (ha : In64 a) (hb : In64 b) (hc : 0 < c) (hc1 : c ≤ 9223372036854775807) (k : Nat) (hk : 401 < k) :
  pledgeref1_Div.f k a b c up = some (if In64 (divS a b c up) then (divS a b c up, true) else (0, false)) := by
 unfold pledgeref1_Div.f
 rw [if_neg (by omega), Rsize_eq a ha, Rsize_eq b hb]
 simp only [Option.bind_some]
 have ha' : 0 ≤ (if a < 0 then -a else a) ∧ (if a < 0 then -a else a) ≤ 9223372036854775808 := by obtain ⟨h0, h1⟩ := ha; split <;> omega
 have hb' : 0 ≤ (if b < 0 then -b else b) ∧ (if b < 0 then -b else b) ≤ 9223372036854775808 := by obtain ⟨h0, h1⟩ := hb; split <;> omega
 rw [RWide_eq _ _ ha'.1 (by omega) hb'.1 (by omega)]
 have hd := divS_size a b c up hc _ rfl
 have hP0 : 0 ≤ (if a < 0 then -a else a) * (if b < 0 then -b else b) := Int.mul_nonneg ha'.1 hb'.1
 have hP1 : (if a < 0 then -a else a) * (if b < 0 then -b else b) ≤ 9223372036854775808 * 9223372036854775808 := Int.mul_le_mul ha'.2 hb'.2 hb'.1 (by omega)
 generalize (if a < 0 then -a else a) * (if b < 0 then -b else b) = P at *
 clear ha' hb'
 obtain ⟨N, rfl⟩ := Int.eq_ofNat_of_zero_le hP0
 obtain ⟨C, rfl⟩ := Int.eq_ofNat_of_zero_le (show 0 ≤ c by omega)
 have hN : N < 2 ^ 128 := by
  have : (N : Int) < 340282366920938463463374607431768211456 := by omega
  have h2 : N < 340282366920938463463374607431768211456 := by omega
  exact h2
 obtain ⟨q, ho, hq⟩ := over_eq_ref N C hN (by omega) (by omega) k (by omega)
 simp only [Option.bind_some]
 have e1 : (N : Int) / 18446744073709551616 = ((N / 2 ^ 64 : Nat) : Int) := by rw [Int.natCast_ediv]; rfl
 have e2 : (N : Int) % 18446744073709551616 = ((N % 2 ^ 64 : Nat) : Int) := by rw [Int.natCast_emod]; rfl
 have e3 : IntKind.u64.wrap (C : Int) = (C : Int) := by rw [wu64]; omega
 rw [e1, e2, e3, ho]
 simp only [Option.bind_some]
 obtain ⟨k', hk'⟩ : ∃ m, k = m + 1 := ⟨k - 1, by omega⟩
 have hj := fun neg b q h0 h1 => RDiv_j0 k' neg b q h0 h1
 rw [← hk'] at hj
 have hr : ((N % C : Nat) : Int) = (N : Int) % (C : Int) := Int.natCast_emod N C
 have hqd : ((N / C : Nat) : Int) = (N : Int) / (C : Int) := Int.natCast_ediv N C
 have hdd : N / 2 ^ 64 / C = N / C / 2 ^ 64 := by rw [Nat.div_div_eq_div_mul, Nat.mul_comm, ← Nat.div_div_eq_div_mul]
 by_cases hz : N / 2 ^ 64 / C = 0
 ·
  rw [decide_eq_true hz]
  simp only [if_true]
  have hqq := hq hz
  have hb1 : N / C < 18446744073709551616 := by
   rw [hdd] at hz
   rcases Nat.div_eq_zero_iff.1 hz with h | h
   · exact absurd h (by decide)
   · exact h
  have hq0 : 0 ≤ q := by omega
  have hq1 : q < 18446744073709551616 := by omega
  rw [hd, ← hqd, ← hr, ← hqq]
  have hjj := fun neg b => hj neg b q hq0 hq1
  clear ho hr hd hj
  generalize (decide (a < 0) != decide (b < 0)) = neg
  generalize ((N % C : Nat) : Int) = R
  by_cases hrz : R = 0
  ·
   rw [if_pos hrz, hjj]
   simp [hrz]
  ·
   rw [if_neg hrz, hjj]
   cases neg <;> cases up <;> simp [hrz]
 ·
  rw [decide_eq_false hz]
  simp only [Bool.false_eq_true, if_false]
  have hbig : 18446744073709551616 ≤ N / C := by
   rw [hdd] at hz
   have hz' : ¬ (N / C < 2 ^ 64) := fun h => hz (Nat.div_eq_of_lt h)
   have : (2 : Nat) ^ 64 = 18446744073709551616 := by decide
   omega
  have hni : ¬ In64 (divS a b (C : Int) up) := by
   rw [hd, ← hqd]
   unfold In64
   repeat' split
   all_goals omega
  rw [if_neg hni]
theorem xor_max (x : Int) (h0 : 0 ≤ x) (h1 : x < 18446744073709551616) : Go.bits .xor .u64 IntKind.u64.max x = 18446744073709551615 - x := by
 obtain ⟨n, rfl⟩ := Int.eq_ofNat_of_zero_le h0
 have en : (BitVec.ofInt 64 (n : Int)).toNat = n := by
  rw [BitVec.toNat_ofInt, show ((2 ^ 64 : Nat) : Int) = 18446744073709551616 from rfl]
  omega
 show IntKind.u64.wrap (((BitVec.ofInt 64 IntKind.u64.max) ^^^ (BitVec.ofInt 64 (n : Int))).toNat : Int) = _
 have em : BitVec.ofInt 64 IntKind.u64.max = BitVec.allOnes 64 := rfl
 rw [em, BitVec.allOnes_xor, BitVec.toNat_not, en, wu64]
 omega
/-- Sizes: how far a number is from 0. -/
def ab (a : Int) : Int := if a < 0 then -a else a
theorem ab_bd (a : Int) (h : In64 a) : 0 ≤ ab a ∧ ab a ≤ 9223372036854775808 := by unfold ab; obtain ⟨h0, h1⟩ := h; split <;> omega
theorem ab_mul (a b : Int) : ab a * ab b = if (decide (a < 0) != decide (b < 0)) = true then -(a * b) else a * b := by
 have := abs_mul a b
 unfold ab
 rw [this]
 by_cases h1 : a < 0 <;> by_cases h2 : b < 0 <;> simp [h1, h2]
theorem ab_prod (a b : Int) (ha : In64 a) (hb : In64 b) : 0 ≤ ab a * ab b ∧ ab a * ab b ≤ 85070591730234615865843651857942052864 := by
 obtain ⟨a0, a1⟩ := ab_bd a ha
 obtain ⟨b0, b1⟩ := ab_bd b hb
 refine ⟨Int.mul_nonneg a0 b0, ?_⟩
 have : ab a * ab b ≤ 9223372036854775808 * 9223372036854775808 := Int.mul_le_mul a1 b1 b0 (by omega)
 omega
theorem product_eq (a b : Int) (ha : In64 a) (hb : In64 b) : fix_product.f a b = some (a * b / 18446744073709551616, a * b % 18446744073709551616) := by
 unfold fix_product.f
 have ⟨a0, a1⟩ := ab_bd a ha
 have ⟨b0, b1⟩ := ab_bd b hb
 rw [size_eq a ha, size_eq b hb]
 simp only [Option.bind_some]
 rw [show (if a < 0 then -a else a) = ab a from rfl, show (if b < 0 then -b else b) = ab b from rfl, Wide_eq _ _ a0 (by omega) b0 (by omega)]
 simp only [Option.bind_some]
 have hm := ab_mul a b
 have ⟨p0, p1⟩ := ab_prod a b ha hb
 generalize ab a * ab b = P at *
 have hnb : (decide (a < 0) == decide (b < 0)) = !(decide (a < 0) != decide (b < 0)) := by simp [bne]
 rw [hnb]
 generalize (decide (a < 0) != decide (b < 0)) = neg at *
 clear hnb ha hb a0 a1 b0 b1
 have m0 := Int.emod_nonneg P (show (18446744073709551616 : Int) ≠ 0 by omega)
 have m1 := Int.emod_lt_of_pos P (show (0 : Int) < 18446744073709551616 by omega)
 have q0 : 0 ≤ P / 18446744073709551616 := by omega
 have q1 : P / 18446744073709551616 ≤ 4611686018427387904 := by omega
 have e := Int.emod_add_mul_ediv P 18446744073709551616
 cases neg with
 | false =>
  simp only [Bool.not_false, if_true, Bool.false_eq_true, if_false] at hm ⊢
  rw [w64 _ (by omega) (by omega), hm]
 | true =>
  simp only [Bool.not_true, Bool.false_eq_true, if_false, if_true] at hm ⊢
  rw [xor_max _ m0 m1, xor_max _ q0 (by omega), if_pos (by omega), wu64]
  have hX : a * b = -P := by omega
  rw [hX]
  congr 2
  ·
   generalize P / 18446744073709551616 = q at *
   generalize P % 18446744073709551616 = r at *
   have hP : P = 18446744073709551616 * q + r := by omega
   subst hP
   clear hX hm p0 p1 e
   unfold wrap64
   by_cases hr : r = 0
   · subst hr; omega
   · omega
  · omega
theorem Or2 (x y : Int) (k : Nat) (hk : 3 < k) : cmp_Or_int.f k [x, y] = some (if x = 0 then y else x) := by
 unfold cmp_Or_int.f
 have hl : (([x, y] : List Int).length : Int) = 2 := rfl
 rw [hl]
 have r0 : rd [x, y] 0 = x := rfl
 have r1 : rd [x, y] 1 = y := rfl
 obtain ⟨k, rfl⟩ : ∃ m, k = m + 1 := ⟨k - 1, by omega⟩
 simp only [cmp_Or_int.l0]
 rw [if_pos (by omega), if_pos (by omega), hl, if_pos (by omega), r0, show wrap64 (0 + 1) = 1 from by rw [w64s _ (by omega) (by omega)]; rfl]
 by_cases hx : x = 0
 ·
  rw [if_pos hx, if_pos hx]
  obtain ⟨k, rfl⟩ : ∃ m, k = m + 1 := ⟨k - 1, by omega⟩
  simp only [cmp_Or_int.l0]
  rw [if_pos (by omega), if_pos (by omega), hl, if_pos (by omega), r1, show wrap64 (1 + 1) = 2 from by rw [w64s _ (by omega) (by omega)]; rfl]
  by_cases hy : y = 0
  ·
   rw [if_pos hy]
   obtain ⟨k, rfl⟩ : ∃ m, k = m + 1 := ⟨k - 1, by omega⟩
   simp only [cmp_Or_int.l0]
   rw [if_neg (by omega), hy]
  · rw [if_neg hy]
 · rw [if_neg hx, if_neg hx]
theorem Cmp64_eq (a b : Int) : cmp_Compare_int64.f a b = some (if a < b then -1 else if b < a then 1 else 0) := by
 unfold cmp_Compare_int64.f cmp_isNaN_int64.f
 simp only [Option.bind_some, bne_self_eq_false, Bool.false_eq_true, if_false]
 repeat' split
 all_goals first | rfl | omega
theorem CmpU_eq (a b : Int) : cmp_Compare_uint64.f a b = some (if a < b then -1 else if b < a then 1 else 0) := by
 unfold cmp_Compare_uint64.f cmp_isNaN_uint64.f
 simp only [Option.bind_some, bne_self_eq_false, Bool.false_eq_true, if_false]
 repeat' split
 all_goals first | rfl | omega
theorem lex_hi (X Y p r q s : Int) (hX : X = 18446744073709551616 * p + r) (hY : Y = 18446744073709551616 * q + s) (r0 : 0 ≤ r) (r1 : r < 18446744073709551616) (s0 : 0 ≤ s) (s1 : s < 18446744073709551616) :
  (if (if p < q then (-1 : Int) else if q < p then 1 else 0) = 0 then (if r < s then (-1 : Int) else if s < r then 1 else 0) else (if p < q then (-1 : Int) else if q < p then 1 else 0)) = if X < Y then -1 else if Y < X then 1 else 0 := by
 by_cases h1 : p < q
 · rw [if_pos h1, if_neg (show ¬ (-1 : Int) = 0 by omega), if_pos (show X < Y by omega)]
 ·
  rw [if_neg h1]
  by_cases h2 : q < p
  · rw [if_pos h2, if_neg (show ¬ (1 : Int) = 0 by omega), if_neg (show ¬ X < Y by omega), if_pos (show Y < X by omega)]
  ·
   rw [if_neg h2, if_pos rfl]
   obtain rfl : p = q := by omega
   by_cases h3 : r < s
   · rw [if_pos h3, if_pos (show X < Y by omega)]
   ·
    rw [if_neg h3]
    by_cases h4 : s < r
    · rw [if_pos h4, if_neg (show ¬ X < Y by omega), if_pos (show Y < X by omega)]
    · rw [if_neg h4, if_neg (show ¬ X < Y by omega), if_neg (show ¬ Y < X by omega)]
theorem Cmp_eq (a b c d : Int) (ha : In64 a) (hb : In64 b) (hc : In64 c) (hd : In64 d) (k : Nat) (hk : 3 < k) :
  fix_Cmp.f k a b c d = some (if a * b < c * d then -1 else if c * d < a * b then 1 else 0) := by
 unfold fix_Cmp.f
 rw [product_eq a b ha hb, product_eq c d hc hd]
 generalize a * b = X
 generalize c * d = Y
 simp only [Option.bind_some]
 rw [Cmp64_eq, CmpU_eq]
 simp only [Option.bind_some]
 rw [Or2 _ _ k hk]
 simp only [Option.bind_some]
 rw [lex_hi X Y _ _ _ _ (by omega) (by omega) (by omega) (by omega) (by omega) (by omega)]
/-- A lot that may be. -/
def okL (x : S47) : Prop := (0 ≤ x.f0 ∧ x.f0 ≤ 1000) ∧ (0 ≤ x.f1 ∧ x.f1 ≤ 1000000000) ∧ (0 ≤ x.f2 ∧ x.f2 ≤ 1000000000)
theorem lotB_ok (x : S47) (n : Int) (h : lotB x n = true) : okL x ∧ 0 ≤ x.f3 ∧ x.f3 < n := by
 unfold lotB inB at h
 simp only [Bool.and_eq_true, decide_eq_true_eq] at h
 exact ⟨⟨h.1.1.1, h.1.1.2, h.1.2⟩, h.2⟩
theorem Valid_none {L : List S47} {C : List Int} {N : Int} (h : lots_Valid.f L C N = some none) : (0 < L.length ∧ L.length ≤ 8) ∧ (∀ x ∈ L, okL x ∧ 0 ≤ x.f3 ∧ x.f3 < (C.length : Int)) ∧ (0 < C.length ∧ C.length ≤ 8) ∧ (∀ n ∈ C, 0 ≤ n ∧ n ≤ 1000000000000) ∧ 0 ≤ N ∧ N ≤ 1000000000000 := by
 unfold lots_Valid.f at h
 have h := Option.some.inj h
 by_cases h1 : L.length = 0 ∨ 8 < L.length ∨ C.length = 0 ∨ 8 < C.length
 · rw [if_pos h1] at h; cases h
 ·
  rw [if_neg h1] at h
  by_cases h2 : (L.any fun x => !lotB x (C.length : Int)) = true ∨ (C.any fun n => !inB n 1000000000000) = true ∨ inB N 1000000000000 = false
  · rw [if_pos h2] at h; cases h
  ·
   simp only [not_or, List.any_eq_true, not_exists, not_and] at h2
   obtain ⟨a, b, c⟩ := h2
   refine ⟨by omega, fun x hx => lotB_ok x _ ?_, by omega, fun n hn => ?_, ?_⟩
   · have := a x hx; simpa using this
   ·
    have := b n hn
    unfold inB at this; simp at this; exact this
   · unfold inB at c; simp at c; exact c
/-- The lot at a place. -/
def lt (L : List S47) (j : Nat) : S47 := L.getD j z47
theorem rd_lt (L : List S47) (j : Nat) : rd_T47 L (j : Int) = lt L j := by unfold rd_T47 lt; rw [Int.toNat_natCast]
theorem lt_mem (L : List S47) (j : Nat) (h : j < L.length) : lt L j ∈ L := by
 unfold lt; rw [List.getD_eq_getElem?_getD, List.getElem?_eq_getElem h]; exact List.getElem_mem h
theorem lt_ok {L : List S47} (ok : ∀ x ∈ L, okL x) (j : Nat) (h : j < L.length) : okL (lt L j) := ok _ (lt_mem L j h)
/-- Cheaper for what it is worth. -/
def chp (a b : S47) : Bool := if a.f1 = 0 then decide (a.f1 > b.f1) else if b.f1 = 0 then decide (a.f1 > b.f1) else decide (a.f2 * b.f1 < b.f2 * a.f1)
theorem Cheaper_eq (a b : S47) (ha : okL a) (hb : okL b) (k : Nat) (hk : 3 < k) : lots_Cheaper.f k a.f0 a.f1 a.f2 a.f3 b.f0 b.f1 b.f2 b.f3 = some (chp a b) := by
 unfold lots_Cheaper.f chp
 obtain ⟨_, a1, a2⟩ := ha
 obtain ⟨_, b1, b2⟩ := hb
 by_cases h1 : a.f1 = 0
 · rw [if_pos h1, if_pos h1]
 ·
  rw [if_neg h1, if_neg h1]
  by_cases h2 : b.f1 = 0
  · rw [if_pos h2, if_pos h2]
  ·
   rw [if_neg h2, if_neg h2, Cmp_eq _ _ _ _ (by unfold In64; omega) (by unfold In64; omega) (by unfold In64; omega) (by unfold In64; omega) k hk]
   simp only [Option.bind_some]
   congr 1
   generalize a.f2 * b.f1 = X
   generalize b.f2 * a.f1 = Y
   by_cases h3 : X < Y
   · rw [if_pos h3, decide_eq_true h3]; rfl
   ·
    rw [if_neg h3, decide_eq_false h3]
    by_cases h4 : Y < X
    · rw [if_pos h4]; rfl
    · rw [if_neg h4]; rfl
theorem fr' (a va b vb c vc : Int) (hvb : 0 < vb) (hva : 0 ≤ va) (hvc : 0 ≤ vc) (h1 : a * vb ≤ b * va) (h2 : b * vc ≤ c * vb) : a * vc ≤ c * va := by
 have e1 : (a * vc) * vb = (a * vb) * vc := by grind
 have e2 : (b * va) * vc = (b * vc) * va := by grind
 have e3 : (c * vb) * va = (c * va) * vb := by grind
 have g1 : (a * vb) * vc ≤ (b * va) * vc := Int.mul_le_mul_of_nonneg_right h1 hvc
 have g2 : (b * vc) * va ≤ (c * vb) * va := Int.mul_le_mul_of_nonneg_right h2 hva
 exact Int.le_of_mul_le_mul_right (by rw [e1, ← e3, ← e2] at *; omega) hvb
/-- A lot that counts. -/
def good (L : List S47) (j : Nat) : Prop := 0 < (lt L j).f1 ∧ 0 < (lt L j).f0
/-- The cheapest of those from a place up to another. -/
def best (L : List S47) (fr i b : Nat) : Prop := fr ≤ b ∧ b < i ∧ good L b ∧ ∀ j, fr ≤ j → j < i → good L j → (lt L b).f2 * (lt L j).f1 ≤ (lt L j).f2 * (lt L b).f1
def RateIs (L : List S47) (fr : Nat) (r : Int × Int × Bool) : Prop :=
 (r = (0, 0, false) ∧ ∀ j, fr ≤ j → j < L.length → ¬ good L j) ∨ ∃ b, best L fr L.length b ∧ r = ((lt L b).f2, (lt L b).f1, true)
theorem Rate_l0 (L : List S47) (C : List Int) (N : Int) (hL : L.length ≤ 8) (ok : ∀ x ∈ L, okL x) (fr : Nat) : ∀ (d i k : Nat) (x : Int), L.length - i = d → i ≤ L.length → fr ≤ i → d + 20 < k →
  ((x = -1 ∧ ∀ j, fr ≤ j → j < i → ¬ good L j) ∨ ∃ b : Nat, x = (b : Int) ∧ best L fr i b) → ∃ r, bound_Rate.l0 k x (i : Int) L C N = some r ∧ RateIs L fr r := by
 intro d
 induction d with
 | zero =>
  intro i k x hd hi hfr hk hx
  obtain ⟨k, rfl⟩ : ∃ m, k = m + 1 := ⟨k - 1, by omega⟩
  obtain rfl : i = L.length := by omega
  simp only [bound_Rate.l0]
  rw [if_neg (by omega)]
  rcases hx with ⟨rfl, h⟩ | ⟨b, rfl, h⟩
  · rw [if_pos (by omega)]; exact ⟨_, rfl, .inl ⟨rfl, h⟩⟩
  ·
   have hb := h.2.1
   rw [if_neg (by omega), if_pos (by omega), if_pos (by omega), rd_lt]
   exact ⟨_, rfl, .inr ⟨b, h, rfl⟩⟩
 | succ d ih =>
  intro i k x hd hi hfr hk hx
  obtain ⟨k, rfl⟩ : ∃ m, k = m + 1 := ⟨k - 1, by omega⟩
  have n1 : i < L.length := by omega
  have e : wrap64 ((i : Int) + 1) = ((i + 1 : Nat) : Int) := by rw [w64s _ (by omega) (by omega)]; omega
  have m1 : L.length - (i + 1) = d := by clear hx; omega
  have m2 : i + 1 ≤ L.length := by clear hx; omega
  have m3 : fr ≤ i + 1 := by clear hx; omega
  have m4 : d + 20 < k := by clear hx; omega
  have IH := ih (i + 1) k
  have okI := lt_ok ok i n1
  simp only [bound_Rate.l0]
  rw [if_pos (by omega), if_pos (by omega), e, rd_lt]
  clear e
  have keep : ∀ (hg : ¬ good L i), ((x = -1 ∧ ∀ j, fr ≤ j → j < i + 1 → ¬ good L j) ∨ ∃ b : Nat, x = (b : Int) ∧ best L fr (i + 1) b) := by
   intro hg
   rcases hx with ⟨rfl, h⟩ | ⟨b, rfl, h⟩
   ·
    refine .inl ⟨rfl, fun j h1 h2 => ?_⟩
    by_cases hj : j = i
    · rw [hj]; exact hg
    · exact h j h1 (by omega)
   ·
    refine .inr ⟨b, rfl, h.1, by have := h.2.1; omega, h.2.2.1, fun j h1 h2 h3 => ?_⟩
    by_cases hj : j = i
    · rw [hj] at h3; exact absurd h3 hg
    · exact h.2.2.2 j h1 (by omega) h3
  by_cases g1 : (lt L i).f1 > 0
  ·
   by_cases g0 : (lt L i).f0 > 0
   ·
    rw [if_pos g1, if_pos g0]
    have hgi : good L i := ⟨g1, g0⟩
    rcases hx with ⟨rfl, h⟩ | ⟨b, rfl, h⟩
    ·
     rw [if_pos (by omega)]
     refine IH _ (by omega) (by omega) (by omega) (by omega) (.inr ⟨i, rfl, hfr, by omega, hgi, fun j h1 h2 h3 => ?_⟩)
     by_cases hj : j = i
     · rw [hj]; exact Int.le_refl _
     · exact absurd h3 (h j h1 (by omega))
    ·
     have hb := h.2.1
     have okB := lt_ok ok b (by omega)
     rw [if_neg (by omega), if_pos (by omega), if_pos (by omega), rd_lt, Cheaper_eq _ _ okI okB k (by omega)]
     simp only [Option.bind_some]
     have hgb := h.2.2.1
     have hc : chp (lt L i) (lt L b) = decide ((lt L i).f2 * (lt L b).f1 < (lt L b).f2 * (lt L i).f1) := by
      unfold chp; rw [if_neg (by omega), if_neg (by have := hgb.1; omega)]
     rw [hc]
     by_cases hlt : (lt L i).f2 * (lt L b).f1 < (lt L b).f2 * (lt L i).f1
     ·
      rw [decide_eq_true hlt, if_pos rfl]
      refine IH _ (by omega) (by omega) (by omega) (by omega) (.inr ⟨i, rfl, hfr, by omega, hgi, fun j h1 h2 h3 => ?_⟩)
      by_cases hj : j = i
      · rw [hj]; exact Int.le_refl _
      · exact fr' _ _ _ _ _ _ hgb.1 (by omega) (by have := h3.1; omega) (by omega) (h.2.2.2 j h1 (by omega) h3)
     ·
      rw [decide_eq_false hlt, if_neg (by simp)]
      refine IH _ (by omega) (by omega) (by omega) (by omega) (.inr ⟨b, rfl, h.1, by omega, hgb, fun j h1 h2 h3 => ?_⟩)
      by_cases hj : j = i
      · rw [hj]; omega
      · exact h.2.2.2 j h1 (by omega) h3
   ·
    rw [if_pos g1, if_neg g0]
    exact IH _ m1 m2 m3 m4 (keep (fun h => g0 h.2))
  ·
   rw [if_neg g1]
   exact IH _ m1 m2 m3 m4 (keep (fun h => g1 h.1))
theorem is_eq {L : List S47} {C : List Int} {N : Int} (hv : lots_Valid.f L C N = some none) (fr : Int) : bound_is.f L C N fr = some (decide (0 ≤ fr ∧ fr ≤ (L.length : Int))) := by
 unfold bound_is.f
 rw [hv]
 simp only [Option.bind_some, Option.isNone_none, if_true]
 by_cases h : fr ≥ 0
 · rw [if_pos h]; exact congrArg some (decide_eq_decide.2 (by omega))
 · rw [if_neg h, decide_eq_false (by omega)]
theorem Rate_eq {L : List S47} {C : List Int} {N : Int} (hv : lots_Valid.f L C N = some none) (fr : Nat) (hf : fr ≤ L.length) (k : Nat) (hk : 40 < k) : ∃ r, bound_Rate.f k L C N (fr : Int) = some r ∧ RateIs L fr r := by
 obtain ⟨hL, ok, _⟩ := Valid_none hv
 unfold bound_Rate.f
 rw [is_eq hv, decide_eq_true (by omega)]
 simp only [Option.bind_some, if_true]
 exact Rate_l0 L C N hL.2 (fun x hx => (ok x hx).1) fr (L.length - fr) fr k (-1) rfl hf (Nat.le_refl _) (by omega) (.inl ⟨rfl, fun j h1 h2 => by omega⟩)
/-- What so much costs at least, of what is priced so. -/
def cl (x c v : Int) : Int := -(-(x * c) / v)
theorem Least_eq {L : List S47} {C : List Int} {N : Int} (hv : lots_Valid.f L C N = some none) (fr : Nat) (hf : fr ≤ L.length) (x : Int) (hx : In64 x) (k : Nat) (hk : 60 < k) :
  (x ≤ 0 → bound_Least.f k L C N (fr : Int) x = some (0, true)) ∧
  (0 < x → (∀ j, fr ≤ j → j < L.length → ¬ good L j) → bound_Least.f k L C N (fr : Int) x = some (0, false)) ∧
  (0 < x → ∀ b, best L fr L.length b → ∃ b', best L fr L.length b' ∧ bound_Least.f k L C N (fr : Int) x = some (if In64 (cl x (lt L b').f2 (lt L b').f1) then (cl x (lt L b').f2 (lt L b').f1, true) else (0, false))) := by
 obtain ⟨hL, ok, _⟩ := Valid_none hv
 unfold bound_Least.f
 rw [is_eq hv, decide_eq_true (by omega)]
 simp only [Option.bind_some, if_true]
 obtain ⟨r, hr, hi⟩ := Rate_eq hv fr hf k (by omega)
 refine ⟨fun h => by rw [if_pos h], fun h hn => ?_, fun h b hb => ?_⟩
 ·
  rw [if_neg (by omega), hr]
  rcases hi with ⟨rfl, _⟩ | ⟨b, hb, rfl⟩
  · rfl
  · exact absurd hb.2.2.1 (hn b hb.1 hb.2.1)
 ·
  rw [if_neg (by omega), hr]
  rcases hi with ⟨rfl, hn⟩ | ⟨b', hb', rfl⟩
  · exact absurd hb.2.2.1 (hn b hb.1 hb.2.1)
  ·
   refine ⟨b', hb', ?_⟩
   obtain ⟨_, o1, o2⟩ := lt_ok (fun x hx => (ok x hx).1) b' hb'.2.1
   simp only [Option.bind_some, if_true]
   rw [Div_eq x _ _ true hx (by unfold In64; omega) hb'.2.2.1.1 (by omega) k (by omega)]
   have e : divS x (lt L b').f2 (lt L b').f1 true = cl x (lt L b').f2 (lt L b').f1 := by unfold divS cl; simp
   rw [e]
   rfl
theorem cl_le (x c v K : Int) (hv : 0 < v) (h : x * c ≤ K * v) : cl x c v ≤ K := by
 unfold cl
 have : -K ≤ -(x * c) / v := by
  rw [Int.le_ediv_iff_mul_le hv]
  have : -K * v = -(K * v) := by grind
  omega
 omega
theorem cl_ge (x c v : Int) (hv : 0 < v) : x * c ≤ cl x c v * v := by
 unfold cl
 have h := Int.ediv_mul_le (-(x * c)) (show v ≠ 0 by omega)
 have : -(-(x * c) / v) * v = -((-(x * c) / v) * v) := by grind
 omega
theorem cl_nonneg (x c v : Int) (hv : 0 < v) (h : 0 ≤ x * c) : 0 ≤ cl x c v := by
 have := cl_ge x c v hv
 apply Decidable.byContradiction
 intro hn
 have : cl x c v * v ≤ (-1) * v := Int.mul_le_mul_of_nonneg_right (by omega) (by omega)
 omega
/-- What is taken of the first i lots of a group is worth. -/
def gS (L : List S47) (T : List Int) (g : Int) : Nat → Int
 | 0 => 0
 | i + 1 => gS L T g i + (if (lt L i).f3 = g then T.getD i 0 * (lt L i).f1 else 0)
/-- A cap. -/
def cap1 (c s : Int) : Int := if c > 0 then mn s c else s
/-- What the first m groups count. -/
def gV (L : List S47) (C T : List Int) : Nat → Int
 | 0 => 0
 | m + 1 => gV L C T m + cap1 (C.getD m 0) (gS L T m T.length)
/-- What a choice is worth. -/
def gW (L : List S47) (C T : List Int) : Int := gV L C T C.length
/-- What the first i cost. -/
def gK (L : List S47) (T : List Int) : Nat → Int
 | 0 => 0
 | i + 1 => gK L T i + T.getD i 0 * (lt L i).f2
/-- A choice that may be. -/
def okT (L : List S47) (T : List Int) : Prop := T.length = L.length ∧ ∀ i : Nat, i < L.length → 0 ≤ T.getD i 0 ∧ T.getD i 0 ≤ (lt L i).f0
theorem mul_bd {a b A B : Int} (ha : 0 ≤ a) (ha' : a ≤ A) (hb : 0 ≤ b) (hb' : b ≤ B) : 0 ≤ a * b ∧ a * b ≤ A * B :=
 ⟨Int.mul_nonneg ha hb, Int.le_trans (Int.mul_le_mul_of_nonneg_right ha' hb) (Int.mul_le_mul_of_nonneg_left hb' (Int.le_trans ha ha'))⟩
theorem pr_bd {L : List S47} {T : List Int} (ok : ∀ x ∈ L, okL x) (hT : okT L T) (i : Nat) (h : i < L.length) : 0 ≤ T.getD i 0 * (lt L i).f1 ∧ T.getD i 0 * (lt L i).f1 ≤ 1000000000000 := by
 obtain ⟨a, b, _⟩ := lt_ok ok i h
 obtain ⟨c, d⟩ := hT.2 i h
 have := mul_bd (A := 1000) (B := 1000000000) c (by omega) b.1 b.2
 omega
theorem pk_bd {L : List S47} {T : List Int} (ok : ∀ x ∈ L, okL x) (hT : okT L T) (i : Nat) (h : i < L.length) : 0 ≤ T.getD i 0 * (lt L i).f2 ∧ T.getD i 0 * (lt L i).f2 ≤ 1000000000000 := by
 obtain ⟨a, _, b⟩ := lt_ok ok i h
 obtain ⟨c, d⟩ := hT.2 i h
 have := mul_bd (A := 1000) (B := 1000000000) c (by omega) b.1 b.2
 omega
theorem gS_bd {L : List S47} {T : List Int} (ok : ∀ x ∈ L, okL x) (hT : okT L T) (g : Int) : ∀ i : Nat, i ≤ L.length → 0 ≤ gS L T g i ∧ gS L T g i ≤ i * 1000000000000
 | 0, _ => by simp [gS]
 | i + 1, h => by
  have h1 := gS_bd ok hT g i (by omega)
  have h2 := pr_bd ok hT i (by omega)
  simp only [gS]
  split <;> omega
theorem gK_bd {L : List S47} {T : List Int} (ok : ∀ x ∈ L, okL x) (hT : okT L T) : ∀ i : Nat, i ≤ L.length → 0 ≤ gK L T i ∧ gK L T i ≤ i * 1000000000000
 | 0, _ => by simp [gK]
 | i + 1, h => by
  have h1 := gK_bd ok hT i (by omega)
  have h2 := pk_bd ok hT i (by omega)
  simp only [gK]
  omega
theorem cap_bd (c s : Int) (h : 0 ≤ s) : 0 ≤ cap1 c s ∧ cap1 c s ≤ s := by
 unfold cap1 mn; split
 · split <;> omega
 · omega
theorem gV_bd {L : List S47} {C T : List Int} (ok : ∀ x ∈ L, okL x) (hT : okT L T) (h8 : L.length ≤ 8) : ∀ m : Nat, 0 ≤ gV L C T m ∧ gV L C T m ≤ m * 8000000000000
 | 0 => by simp [gV]
 | m + 1 => by
  have h1 := gV_bd (C := C) ok hT h8 m
  have h2 := gS_bd ok hT (m : Int) T.length (by rw [hT.1]; omega)
  have h3 := cap_bd (C.getD m 0) _ h2.1
  have h4 := hT.1
  simp only [gV]
  omega
theorem getD_set (T : List Int) (a i : Nat) (v : Int) (ha : a < T.length) : (T.set a v).getD i 0 = if i = a then v else T.getD i 0 := by
 rw [List.getD_eq_getElem?_getD, List.getD_eq_getElem?_getD, List.getElem?_set]
 by_cases h : a = i
 · subst h; rw [if_pos rfl, if_pos ha, if_pos rfl]; rfl
 · rw [if_neg h, if_neg (fun e => h e.symm)]
theorem w64m (n : Int) (h0 : -1000000000000000 ≤ n) (h1 : n ≤ 1000000000000000) : wrap64 n = n := by unfold wrap64; omega
theorem rd_nat' (l : List Int) (i : Nat) : rd l (i : Int) = l.getD i 0 := by unfold rd; rw [Int.toNat_natCast]
theorem wn (i : Nat) (h : i ≤ 1000000) : wrap64 ((i : Int) + 1) = ((i + 1 : Nat) : Int) := by unfold wrap64; omega
/-- The sums of all groups, of the first i lots. -/
def sm (L : List S47) (T : List Int) (m i : Nat) : List Int := (List.range m).map (fun g : Nat => gS L T (g : Int) i)
theorem sm_len (L : List S47) (T : List Int) (m i : Nat) : (sm L T m i).length = m := by unfold sm; rw [List.length_map, List.length_range]
theorem sm_get (L : List S47) (T : List Int) (m i g : Nat) (h : g < m) : (sm L T m i).getD g 0 = gS L T (g : Int) i := by
 unfold sm; rw [List.getD_eq_getElem?_getD, List.getElem?_map, List.getElem?_range h]; rfl
theorem sm_elem (L : List S47) (T : List Int) (m i j : Nat) (h : j < (sm L T m i).length) : (sm L T m i)[j] = gS L T (j : Int) i := by simp [sm]
theorem sm_zero (L : List S47) (T : List Int) (m : Nat) : List.replicate m (0 : Int) = sm L T m 0 := by
 apply List.ext_getElem
 · rw [List.length_replicate, sm_len]
 ·
  intro j h1 h2
  rw [List.getElem_replicate, sm_elem]; rfl
theorem sm_step (L : List S47) (T : List Int) (m i g : Nat) (v : Int) (hg : (lt L i).f3 = (g : Int)) (hm : g < m) (hv : v = gS L T (g : Int) i + T.getD i 0 * (lt L i).f1) : (sm L T m i).set g v = sm L T m (i + 1) := by
 apply List.ext_getElem
 · rw [List.length_set, sm_len, sm_len]
 ·
  intro j h1 h2
  rw [List.getElem_set, sm_elem, sm_elem]
  simp only [gS]
  by_cases h : g = j
  · subst h; rw [if_pos rfl, if_pos hg, hv]
  · rw [if_neg h, if_neg (by omega), Int.add_zero]
/-- A problem that may be. -/
structure OkP (L : List S47) (C : List Int) : Prop where
 l8 : L.length ≤ 8
 lots : ∀ x ∈ L, okL x
 grp : ∀ x ∈ L, 0 ≤ x.f3 ∧ x.f3 < (C.length : Int)
 c8 : C.length ≤ 8
theorem w_l0 {L : List S47} {C T : List Int} (P : OkP L C) (hT : okT L T) (N : Int) : ∀ (d i k : Nat), i + d = L.length → lots_worth.l0 (k + d + 1) (sm L T C.length i) T (T.length : Int) (i : Int) L C N = lots_worth.l1 k 0 (sm L T C.length L.length) (C.length : Int) 0 L C N
 | 0, i, k, h => by
  obtain rfl : i = L.length := by omega
  simp only [Nat.add_zero, lots_worth.l0]
  rw [if_neg (by rw [hT.1]; omega), sm_len]
 | d + 1, i, k, h => by
  have ih := w_l0 P hT N d (i + 1) k (by omega)
  have hT1 := hT.1
  have hl8 := P.l8
  have hi : i < L.length := by omega
  obtain ⟨q1, q2⟩ := P.grp _ (lt_mem L i hi)
  obtain ⟨g, hg⟩ := Int.eq_ofNat_of_zero_le q1
  have hgC : g < C.length := by omega
  have b1 := gS_bd P.lots hT (g : Int) i (by omega)
  have b2 := pr_bd P.lots hT i hi
  obtain ⟨K, hK⟩ : ∃ K, K = k + d + 1 := ⟨_, rfl⟩
  rw [← hK] at ih
  rw [show k + (d + 1) + 1 = K + 1 by omega]
  have ew1 : wrap64 (T.getD i 0 * (lt L i).f1) = T.getD i 0 * (lt L i).f1 := w64m _ (by omega) (by omega)
  have ew2 : wrap64 (gS L T (g : Int) i + T.getD i 0 * (lt L i).f1) = gS L T (g : Int) i + T.getD i 0 * (lt L i).f1 := w64m _ (by omega) (by omega)
  simp only [lots_worth.l0]
  rw [if_pos (by omega), if_pos (by omega), if_pos (by omega), if_pos (by omega), rd_lt, hg, if_pos (by omega), sm_len, if_pos (by omega), rd_nat', rd_nat', sm_get _ _ _ _ _ hgC, ew1, ew2, Int.toNat_natCast, sm_step L T C.length i g _ hg hgC rfl, wn i (by omega), ih]
theorem w_l1 {L : List S47} {C T : List Int} (P : OkP L C) (hT : okT L T) (N : Int) : ∀ (d j k : Nat), j + d = C.length → lots_worth.l1 (k + d + 1) (gV L C T j) (sm L T C.length L.length) (C.length : Int) (j : Int) L C N = some (gW L C T)
 | 0, j, k, h => by
  obtain rfl : j = C.length := by omega
  simp only [Nat.add_zero, lots_worth.l1]
  rw [if_neg (by omega)]
  rfl
 | d + 1, j, k, h => by
  have ih := w_l1 P hT N d (j + 1) k (by omega)
  have hj : j < C.length := by omega
  have hT1 := hT.1
  have hc8 := P.c8
  have hl8 := P.l8
  have b1 := gV_bd (C := C) P.lots hT hl8 j
  have b3 := gS_bd P.lots hT (j : Int) L.length (by omega)
  have b2 := cap_bd (C.getD j 0) _ b3.1
  obtain ⟨K, hK⟩ : ∃ K, K = k + d + 1 := ⟨_, rfl⟩
  rw [← hK] at ih
  rw [show k + (d + 1) + 1 = K + 1 by omega]
  simp only [lots_worth.l1]
  rw [if_pos (by omega), if_pos (by omega), sm_len, if_pos (by omega), if_pos (by omega), rd_nat', rd_nat', sm_get _ _ _ _ _ hj, wn j (by omega)]
  have e : gV L C T (j + 1) = gV L C T j + cap1 (C.getD j 0) (gS L T (j : Int) L.length) := by simp only [gV]; rw [hT1]
  by_cases hc : C.getD j 0 > 0
  ·
   have e2 : cap1 (C.getD j 0) (gS L T (j : Int) L.length) = mn (gS L T (j : Int) L.length) (C.getD j 0) := if_pos hc
   rw [if_pos hc, ← e2, ← e, w64m _ (by omega) (by omega), ih]
  ·
   have e2 : cap1 (C.getD j 0) (gS L T (j : Int) L.length) = gS L T (j : Int) L.length := if_neg hc
   rw [if_neg hc]
   rw [e2] at e b2
   rw [← e, w64m _ (by omega) (by omega), ih]
theorem worth_g {L : List S47} {C T : List Int} (P : OkP L C) (hT : okT L T) (N : Int) (k : Nat) (hk : 20 < k) : lots_worth.f k L C N T = some (gW L C T) := by
 have hc8 := P.c8
 have hl8 := P.l8
 unfold lots_worth.f
 rw [if_pos (by omega), if_pos (by omega), Int.toNat_natCast, sm_zero L T]
 obtain ⟨k1, rfl⟩ : ∃ m, k = m + L.length + 1 := ⟨k - L.length - 1, by omega⟩
 have h0 := w_l0 P hT N L.length 0 k1 (by omega)
 rw [show ((0 : Nat) : Int) = 0 from rfl] at h0
 rw [h0]
 obtain ⟨k2, rfl⟩ : ∃ m, k1 = m + C.length + 1 := ⟨k1 - C.length - 1, by omega⟩
 exact w_l1 P hT N C.length 0 k2 (by omega)
/-- Is each of d places from i on within? -/
def fb (L : List S47) (T : List Int) : Nat → Nat → Bool
 | _, 0 => true
 | i, d + 1 => decide (0 ≤ T.getD i 0 ∧ T.getD i 0 ≤ (lt L i).f0) && fb L T (i + 1) d
theorem fb_iff (L : List S47) (T : List Int) : ∀ (d i : Nat), fb L T i d = true ↔ ∀ j : Nat, i ≤ j → j < i + d → 0 ≤ T.getD j 0 ∧ T.getD j 0 ≤ (lt L j).f0
 | 0, i => by simp only [fb, true_iff]; intro j _ _; omega
 | d + 1, i => by
  simp only [fb, Bool.and_eq_true, decide_eq_true_eq, fb_iff L T d (i + 1)]
  constructor
  ·
   rintro ⟨h1, h2⟩ j hj hj2
   by_cases h : j = i
   · subst h; exact h1
   · exact h2 j (by omega) (by omega)
  ·
   intro h
   exact ⟨h i (Nat.le_refl _) (by omega), fun j hj hj2 => h j (by omega) (by omega)⟩
theorem f_l0 (L : List S47) (C T : List Int) (hL : L.length ≤ 8) (hT : T.length = L.length) (N : Int) : ∀ (d i k : Nat), i + d = L.length → lots_fits.l0 (k + d + 1) T (T.length : Int) (i : Int) L C N = some (fb L T i d)
 | 0, i, k, h => by
  simp only [Nat.add_zero, lots_fits.l0, fb]
  rw [if_neg (by omega)]
 | d + 1, i, k, h => by
  have ih := f_l0 L C T hL hT N d (i + 1) k (by omega)
  obtain ⟨K, hK⟩ : ∃ K, K = k + d + 1 := ⟨_, rfl⟩
  rw [← hK] at ih
  rw [show k + (d + 1) + 1 = K + 1 by omega]
  simp only [lots_fits.l0, fb]
  rw [if_pos (by omega), if_pos (by omega), if_pos (by omega), rd_nat', rd_lt]
  by_cases h1 : T.getD i 0 < 0
  · rw [if_pos h1, decide_eq_false (by omega)]; rfl
  ·
   rw [if_neg h1, if_pos (by omega)]
   by_cases h2 : T.getD i 0 > (lt L i).f0
   · rw [if_pos h2, decide_eq_false (by omega)]; rfl
   · rw [if_neg h2, decide_eq_true (by omega), wn i (by omega), ih]; rfl
def fitB (L : List S47) (T : List Int) : Bool := decide (T.length = L.length) && fb L T 0 L.length
theorem fitB_iff (L : List S47) (T : List Int) : fitB L T = true ↔ okT L T := by
 unfold fitB okT
 rw [Bool.and_eq_true, decide_eq_true_eq, fb_iff]
 constructor
 · rintro ⟨a, b⟩; exact ⟨a, fun i hi => b i (Nat.zero_le _) (by omega)⟩
 · rintro ⟨a, b⟩; exact ⟨a, fun i _ hi => b i (by omega)⟩
theorem fits_g {L : List S47} {C : List Int} {N : Int} (hV : lots_Valid.f L C N = some none) (T : List Int) (k : Nat) (hk : 20 < k) : lots_fits.f k L C N T = some (fitB L T) := by
 have hL := (Valid_none hV).1
 unfold lots_fits.f
 rw [hV]
 simp only [Option.bind_some, Option.isNone_none]
 rw [if_pos trivial]
 obtain ⟨k1, rfl⟩ : ∃ m, k = m + 1 := ⟨k - 1, by omega⟩
 simp only [lots_fits.j0]
 unfold fitB
 by_cases h : T.length = L.length
 ·
  have e : ((T.length : Int) != (L.length : Int)) = false := by rw [h]; simp
  rw [e, decide_eq_true h]
  simp only [Bool.false_eq_true, if_false, Bool.true_and]
  obtain ⟨k2, rfl⟩ : ∃ m, k1 = m + L.length + 1 := ⟨k1 - L.length - 1, by omega⟩
  exact f_l0 L C T (by omega) h N L.length 0 k2 (by omega)
 ·
  have e : ((T.length : Int) != (L.length : Int)) = true := by rw [bne_iff_ne]; omega
  rw [e, decide_eq_false h]
  rfl
theorem okP_of {L : List S47} {C : List Int} {N : Int} (hV : lots_Valid.f L C N = some none) : OkP L C := by
 obtain ⟨a, b, c, _⟩ := Valid_none hV
 exact ⟨by omega, fun x hx => (b x hx).1, fun x hx => (b x hx).2, by omega⟩
theorem Worth_g {L : List S47} {C : List Int} {N : Int} (hV : lots_Valid.f L C N = some none) (T : List Int) (k : Nat) (hk : 20 < k) : lots_Worth.f k L C N T = some (if fitB L T = true then (gW L C T, true) else (0, false)) := by
 unfold lots_Worth.f
 rw [fits_g hV T k hk, Option.bind_some]
 by_cases h : fitB L T = true
 · rw [if_pos h, if_pos h, worth_g (okP_of hV) ((fitB_iff L T).1 h) N k hk]; rfl
 · rw [if_neg h, if_neg h]
theorem Worth_ok {L : List S47} {C : List Int} {N : Int} (hV : lots_Valid.f L C N = some none) {T : List Int} (hT : okT L T) (k : Nat) (hk : 20 < k) : lots_Worth.f k L C N T = some (gW L C T, true) := by
 rw [Worth_g hV T k hk, if_pos ((fitB_iff L T).2 hT)]
theorem Fits_g {L : List S47} {C : List Int} {N : Int} (hV : lots_Valid.f L C N = some none) {T : List Int} (hT : okT L T) (k : Nat) (hk : 20 < k) : lots_Fits.f k L C N T = some (decide (gW L C T ≥ N)) := by
 unfold lots_Fits.f
 rw [Worth_ok hV hT k hk]
 rfl
theorem ints_l0 (l : List Int) (hl : l.length ≤ 1000) : ∀ (d i k : Nat), i + d = l.length → pledgeref_Ints.l0 (k + d + 1) l (l.take i) (i : Int) = some l
 | 0, i, k, h => by
  obtain rfl : i = l.length := by omega
  simp only [Nat.add_zero, pledgeref_Ints.l0]
  rw [if_neg (by omega), List.take_length]
 | d + 1, i, k, h => by
  have ih := ints_l0 l hl d (i + 1) k (by omega)
  obtain ⟨K, hK⟩ : ∃ K, K = k + d + 1 := ⟨_, rfl⟩
  rw [← hK] at ih
  rw [show k + (d + 1) + 1 = K + 1 by omega]
  have hi : i < l.length := by omega
  have e : l.take i ++ [l.getD i 0] = l.take (i + 1) := by
   rw [List.take_succ_eq_append_getElem hi, List.getD_eq_getElem?_getD, List.getElem?_eq_getElem hi]; rfl
  simp only [pledgeref_Ints.l0]
  rw [if_pos (by omega), if_pos (by omega), if_pos (by rw [List.length_take]; omega), rd_nat', e, wn i (by omega), ih]
theorem ints_g (l : List Int) (hl : l.length ≤ 1000) (k : Nat) (hk : 1010 < k) : pledgeref_Ints.f k l = some l := by
 unfold pledgeref_Ints.f
 rw [if_pos (by omega), if_pos (by omega)]
 obtain ⟨k1, rfl⟩ : ∃ m, k = m + l.length + 1 := ⟨k - l.length - 1, by omega⟩
 exact ints_l0 l hl l.length 0 k1 (by omega)
theorem c_l0 {L : List S47} {C T : List Int} (P : OkP L C) (hT : okT L T) (N : Int) : ∀ (d i k : Nat), i + d = L.length → lots_Cost.l0 (k + d + 1) (gK L T i) T (T.length : Int) (i : Int) L C N = some (gK L T L.length, true)
 | 0, i, k, h => by
  obtain rfl : i = L.length := by omega
  have hT1 := hT.1
  simp only [Nat.add_zero, lots_Cost.l0]
  rw [if_neg (by omega)]
 | d + 1, i, k, h => by
  have ih := c_l0 P hT N d (i + 1) k (by omega)
  have hT1 := hT.1
  have hl8 := P.l8
  have hi : i < L.length := by omega
  have b1 := gK_bd P.lots hT i (by omega)
  have b2 := pk_bd P.lots hT i hi
  have ew1 : wrap64 (T.getD i 0 * (lt L i).f2) = T.getD i 0 * (lt L i).f2 := w64m _ (by omega) (by omega)
  have ew2 : wrap64 (gK L T i + T.getD i 0 * (lt L i).f2) = gK L T (i + 1) := w64m _ (by omega) (by omega)
  obtain ⟨K, hK⟩ : ∃ K, K = k + d + 1 := ⟨_, rfl⟩
  rw [← hK] at ih
  rw [show k + (d + 1) + 1 = K + 1 by omega]
  simp only [lots_Cost.l0]
  rw [if_pos (by omega), if_pos (by omega), if_pos (by omega), if_pos (by omega), rd_lt, rd_nat', ew1, ew2, wn i (by omega), ih]
theorem Cost_g {L : List S47} {C : List Int} {N : Int} (hV : lots_Valid.f L C N = some none) {T : List Int} (hT : okT L T) (k : Nat) (hk : 20 < k) : lots_Cost.f k L C N T = some (gK L T L.length, true) := by
 have hl8 := (okP_of hV).l8
 unfold lots_Cost.f
 rw [fits_g hV T k hk, Option.bind_some, if_pos ((fitB_iff L T).2 hT)]
 obtain ⟨k1, rfl⟩ : ∃ m, k = m + L.length + 1 := ⟨k - L.length - 1, by omega⟩
 exact c_l0 (okP_of hV) hT N L.length 0 k1 (by omega)
theorem Cost_f {L : List S47} {C : List Int} {N : Int} (hV : lots_Valid.f L C N = some none) (T : List Int) (k : Nat) (hk : 20 < k) : lots_Cost.f k L C N T = some (if fitB L T = true then (gK L T L.length, true) else (0, false)) := by
 by_cases h : fitB L T = true
 · rw [if_pos h]; exact Cost_g hV ((fitB_iff L T).1 h) k hk
 ·
  rw [if_neg h]
  unfold lots_Cost.f
  rw [fits_g hV T k hk, Option.bind_some, if_neg h]
/-- What is amiss with a choice, of a problem that may be. -/
def chkF (L : List S47) (C : List Int) (N : Int) (T : List Int) (w c : Int) : Option Int := if fitB L T = true then (if gW L C T = w then (if gK L T L.length = c then (if w < N then some 115 else none) else some 102) else some 102) else some 102
theorem Check_g {L : List S47} {C : List Int} {N : Int} (hV : lots_Valid.f L C N = some none) (T : List Int) (w c : Int) (b : Bool) (n : Int) (k : Nat) (hk : 20 < k) : cert_Check.f k L C N T w c b n = some (chkF L C N T w c) := by
 unfold cert_Check.f chkF
 rw [hV, Option.bind_some, Worth_g hV T k hk, Cost_f hV T k hk]
 simp only [Option.isNone_none]
 obtain ⟨k, rfl⟩ : ∃ m, k = m + 1 := ⟨k - 1, by omega⟩
 rw [if_pos trivial, Option.bind_some, Option.bind_some]
 by_cases h : fitB L T = true
 ·
  rw [if_pos h, if_pos h, if_pos h]
  simp only []
  rw [if_pos trivial]
  by_cases h1 : gW L C T = w
  ·
   rw [if_pos h1, if_pos h1]
   simp only [cert_Check.j0]
   by_cases h2 : gK L T L.length = c
   ·
    rw [if_pos h2, h2, h1]; simp
    split <;> rfl
   · rw [if_neg h2, if_pos (by rw [bne_iff_ne]; exact h2)]
  ·
   rw [if_neg h1, if_neg h1]
   simp only [cert_Check.j0]; rw [if_pos trivial]
 ·
  rw [if_neg h, if_neg h, if_neg h]
  simp only []
  rw [if_neg (by simp)]
  simp only [cert_Check.j0]; rw [if_pos trivial]
abbrev L1 : List S47 := [(⟨3, 5, 2, 0⟩ : S47)]
theorem V1 : lots_Valid.f L1 [0] 6 = some none := by rfl
theorem F1 (a : Int) (h : fitB L1 [a] = true) (k : Nat) (hk : 20 < k) : lots_Fits.f k L1 [0] 6 [a] = some (decide (gW L1 [0] [a] ≥ 6)) := Fits_g V1 ((fitB_iff L1 [a]).1 h) k hk
theorem sw2 (k : Nat) (hk : 30 < k) : cert_Swap.f k L1 [0] 6 [2] = some ([], false) := by
 unfold cert_Swap.f
 rw [F1 2 rfl k (by omega), Option.bind_some, if_pos (by rfl)]
 show cert_Swap.l0 k [2] 1 0 L1 [0] 6 = _
 obtain ⟨k, rfl⟩ : ∃ m, k = m + 1 := ⟨k - 1, by omega⟩
 obtain ⟨j, hj⟩ : ∃ m, k = m + 1 := ⟨k - 1, by omega⟩
 have he : cert_Swap.l0 k [2] 1 1 L1 [0] 6 = some ([], false) := by rw [hj]; simp [cert_Swap.l0]
 have hw : wrap64 (rd [2] 0 - 1) = 1 := by show wrap64 (2 - 1) = 1; unfold wrap64; omega
 have hw1 : wrap64 (0 + 1) = 1 := by unfold wrap64; omega
 simp only [cert_Swap.l0]
 rw [if_pos (by omega), show slices_Clone_int_int.f [2] = some [2] from rfl, Option.bind_some, if_pos (by omega), if_pos (by simp), hw, Option.bind_some]
 show (lots_Fits.f k L1 [0] 6 [1]).bind _ = _
 rw [F1 1 rfl k (by omega), Option.bind_some, if_neg (by decide), hw1]
 exact he
theorem sw3 (k : Nat) (hk : 30 < k) : cert_Swap.f k L1 [0] 6 [3] = some ([2], true) := by
 unfold cert_Swap.f
 rw [F1 3 rfl k (by omega), Option.bind_some, if_pos (by rfl)]
 show cert_Swap.l0 k [3] 1 0 L1 [0] 6 = _
 obtain ⟨k, rfl⟩ : ∃ m, k = m + 1 := ⟨k - 1, by omega⟩
 have hw : wrap64 (rd [3] 0 - 1) = 2 := by show wrap64 (3 - 1) = 2; unfold wrap64; omega
 simp only [cert_Swap.l0]
 rw [if_pos (by omega), show slices_Clone_int_int.f [3] = some [3] from rfl, Option.bind_some, if_pos (by omega), if_pos (by simp), hw, Option.bind_some]
 show (lots_Fits.f k L1 [0] 6 [2]).bind _ = _
 rw [F1 2 rfl k (by omega), Option.bind_some, if_pos (by rfl)]
 rfl
theorem first_eq (k : Nat) (hk : 100 < k) : pledgelaw21_first.f k = some true := by
 unfold pledgelaw21_first.f
 rw [Option.bind_some, Option.bind_some, sw2 k (by omega), Option.bind_some, sw3 k (by omega), Option.bind_some]
 rfl
theorem RCmp_j3 (k : Nat) (x b : Bool) : pledgeref1_Cmp.j3 (k + 1) x 0 b = some (if b = true then (if x = true then -1 else 1) else 0) := by
 simp only [pledgeref1_Cmp.j3]
 have e : wrap64 (-0) = 0 := by rw [w64s _ (by omega) (by omega)]; rfl
 rw [e]
 cases b <;> cases x <;> rfl
theorem RCmp_j2 (k : Nat) (hk : 0 < k) (h l h' l' : Int) (x b : Bool) : pledgeref1_Cmp.j2 (k + 1) h l h' l' x 0 b = some (if b = true then (if x = true then 1 else -1) else if h ≠ h' ∨ l ≠ l' then (if x = true then -1 else 1) else 0) := by
 simp only [pledgeref1_Cmp.j2]
 obtain ⟨k, rfl⟩ : ∃ m, k = m + 1 := ⟨k - 1, by omega⟩
 cases b with
 | true => cases x <;> rfl
 | false =>
  simp only [Bool.false_eq_true, if_false]
  by_cases e : h = h'
  ·
   rw [if_pos e, RCmp_j3]
   by_cases e2 : l = l'
   · simp [e, e2]
   · simp [e, e2]
  ·
   rw [if_neg e, RCmp_j3]
   simp [e]
theorem RCmp_j1 (k : Nat) (hk : 1 < k) (h l h' l' : Int) (x y : Bool) : pledgeref1_Cmp.j1 (k + 1) h l h' l' x y = some (if x ≠ y then (if x = true then -1 else 1) else if h < h' ∨ h = h' ∧ l < l' then (if x = true then 1 else -1) else if h ≠ h' ∨ l ≠ l' then (if x = true then -1 else 1) else 0) := by
 simp only [pledgeref1_Cmp.j1]
 obtain ⟨k, rfl⟩ : ∃ m, k = m + 1 := ⟨k - 1, by omega⟩
 by_cases hxy : x = y
 ·
  rw [if_neg (show ¬ (x != y) = true by simp [hxy]), if_neg (show ¬ x ≠ y from fun z => z hxy)]
  by_cases a1 : h < h'
  ·
   rw [if_pos a1, RCmp_j2 k (by omega)]
   simp [a1]
  ·
   rw [if_neg a1]
   by_cases a2 : h = h'
   ·
    rw [if_pos a2, RCmp_j2 k (by omega)]
    subst a2
    by_cases a3 : l < l' <;> simp [a3]
   ·
    rw [if_neg a2, RCmp_j2 k (by omega)]
    simp [a1, a2]
 ·
  rw [if_pos (show (x != y) = true by simpa using hxy), if_pos (show x ≠ y from hxy)]
  cases x <;> rfl
/-- A sign that counts: of what is not 0. -/
theorem sgn_lt (P Q : Int) (n m : Bool) (p0 : 0 ≤ P) (q0 : 0 ≤ Q) (hs hs' : Bool) (e1 : hs = (n && decide (P ≠ 0))) (e2 : hs' = (m && decide (Q ≠ 0))) (X Y : Int) (hX : X = if n = true then -P else P) (hY : Y = if m = true then -Q else Q) :
  (if hs ≠ hs' then (if hs = true then (-1 : Int) else 1) else if P < Q then (if hs = true then 1 else -1) else if P ≠ Q then (if hs = true then -1 else 1) else 0) = if X < Y then -1 else if Y < X then 1 else 0 := by
 by_cases hp : P = 0 <;> by_cases hq : Q = 0 <;> cases n <;> cases m <;> simp [hp, hq] at e1 e2 hX hY <;> subst e1 e2 hX hY <;> simp <;> (repeat' split) <;> omega
theorem RCmp_eq (a b c d : Int) (ha : In64 a) (hb : In64 b) (hc : In64 c) (hd : In64 d) (k : Nat) (hk : 6 < k) :
  pledgeref1_Cmp.f k a b c d = some (if a * b < c * d then -1 else if c * d < a * b then 1 else 0) := by
 unfold pledgeref1_Cmp.f
 have ⟨a0, a1⟩ := ab_bd a ha
 have ⟨b0, b1⟩ := ab_bd b hb
 have ⟨c0, c1⟩ := ab_bd c hc
 have ⟨d0, d1⟩ := ab_bd d hd
 rw [Rsize_eq a ha, Rsize_eq b hb, Rsize_eq c hc, Rsize_eq d hd]
 simp only [Option.bind_some]
 rw [show (if a < 0 then -a else a) = ab a from rfl, show (if b < 0 then -b else b) = ab b from rfl, show (if c < 0 then -c else c) = ab c from rfl, show (if d < 0 then -d else d) = ab d from rfl, RWide_eq _ _ a0 (by omega) b0 (by omega), RWide_eq _ _ c0 (by omega) d0 (by omega)]
 simp only [Option.bind_some]
 have hm := ab_mul a b
 have hm2 := ab_mul c d
 have ⟨p0, p1⟩ := ab_prod a b ha hb
 have ⟨q0, q1⟩ := ab_prod c d hc hd
 have hj : ∀ (n : Bool) (h l h' l' : Int) (x : Bool), (decide (c < 0) != decide (d < 0)) = n → pledgeref1_Cmp.j0 k c d h l h' l' x = pledgeref1_Cmp.j1 (k - 1) h l h' l' x (n && decide (h' ≠ 0 ∨ l' ≠ 0)) := by
  intro n h l h' l' x hn
  obtain ⟨k, rfl⟩ : ∃ m, k = m + 1 := ⟨k - 1, by omega⟩
  simp only [pledgeref1_Cmp.j0, hn, Nat.add_sub_cancel]
  cases n with
  | false => simp
  | true =>
   simp only [if_true, Bool.true_and]
   by_cases e : h' = 0
   ·
    rw [if_pos e]
    congr 1
    by_cases e2 : l' = 0 <;> simp [e, e2]
   · rw [if_neg e, decide_eq_true (.inl e)]
 generalize ab a * ab b = P at *
 generalize ab c * ab d = Q at *
 generalize hn1 : (decide (a < 0) != decide (b < 0)) = n at *
 generalize hn2 : (decide (c < 0) != decide (d < 0)) = m at *
 obtain ⟨k1, hk1⟩ : ∃ z, k - 1 = z + 1 := ⟨k - 2, by omega⟩
 have hX : a * b = if n = true then -P else P := by cases n <;> simp at hm ⊢ <;> omega
 have hY : c * d = if m = true then -Q else Q := by cases m <;> simp at hm2 ⊢ <;> omega
 have key := sgn_lt P Q n m p0 q0 _ _ rfl rfl _ _ hX hY
 have lt_iff : (P / 18446744073709551616 < Q / 18446744073709551616 ∨ P / 18446744073709551616 = Q / 18446744073709551616 ∧ P % 18446744073709551616 < Q % 18446744073709551616) ↔ P < Q := by omega
 have ne_iff : (P / 18446744073709551616 ≠ Q / 18446744073709551616 ∨ P % 18446744073709551616 ≠ Q % 18446744073709551616) ↔ P ≠ Q := by omega
 have zp : (P / 18446744073709551616 ≠ 0 ∨ P % 18446744073709551616 ≠ 0) ↔ P ≠ 0 := by omega
 have zq : (Q / 18446744073709551616 ≠ 0 ∨ Q % 18446744073709551616 ≠ 0) ↔ Q ≠ 0 := by omega
 have fin : ∀ x : Bool, x = (n && decide (P ≠ 0)) → pledgeref1_Cmp.j0 k c d (P / 18446744073709551616) (P % 18446744073709551616) (Q / 18446744073709551616) (Q % 18446744073709551616) x = some (if a * b < c * d then -1 else if c * d < a * b then 1 else 0) := by
  intro x hx
  rw [hj m _ _ _ _ _ rfl, hk1, RCmp_j1 k1 (by omega), ← key, hx]
  simp only [lt_iff, ne_iff, zq]
 cases n with
 | false => simp only [Bool.false_eq_true, if_false]; exact fin _ (by simp)
 | true =>
  simp only [if_true]
  by_cases e : P / 18446744073709551616 = 0
  ·
   rw [if_pos e]; refine fin _ ?_
   rw [Bool.eq_iff_iff]; simp; omega
  ·
   rw [if_neg e]; refine fin _ ?_
   rw [Bool.eq_iff_iff]; simp; omega
theorem any_inB (l : List Int) (m : Int) : (l.any fun n => !inB n m) = !(l.all fun n => inB n m) := by
 induction l with
 | nil => rfl
 | cons x l ih => simp only [List.any_cons, List.all_cons, ih, Bool.not_and]
theorem any_lotB (l : List S47) (m : Int) : (l.any fun x => !lotB x m) = !(l.all fun x => lotB x m) := by
 induction l with
 | nil => rfl
 | cons x l ih => simp only [List.any_cons, List.all_cons, ih, Bool.not_and]
theorem drop_int (C : List Int) (i : Nat) (h : i < C.length) : C.drop i = C.getD i 0 :: C.drop (i + 1) := by
 rw [List.drop_eq_getElem_cons h, List.getD_eq_getElem?_getD, List.getElem?_eq_getElem h]; rfl
theorem drop_lot (L : List S47) (i : Nat) (h : i < L.length) : L.drop i = lt L i :: L.drop (i + 1) := by
 rw [List.drop_eq_getElem_cons h]; unfold lt; rw [List.getD_eq_getElem?_getD, List.getElem?_eq_getElem h]; rfl
theorem lotB_iff (x : S47) (n : Int) : lotB x n = true ↔ (((0 ≤ x.f0 ∧ x.f0 ≤ 1000) ∧ (0 ≤ x.f1 ∧ x.f1 ≤ 1000000000)) ∧ (0 ≤ x.f2 ∧ x.f2 ≤ 1000000000)) ∧ (0 ≤ x.f3 ∧ x.f3 < n) := by
 unfold lotB inB; simp only [Bool.and_eq_true, decide_eq_true_eq]
theorem V_l0 (L : List S47) (C : List Int) (N : Int) (hC : C.length ≤ 8) : ∀ (d i k : Nat) (b : Bool), i + d = C.length → pledgeref18_Valid.l0 (k + d + 1) b (i : Int) L C N = pledgeref18_Valid.l1 k (b && (C.drop i).all fun n => inB n 1000000000000) 0 L C N
 | 0, i, k, b, h => by
  obtain rfl : i = C.length := by omega
  simp only [Nat.add_zero, pledgeref18_Valid.l0]
  rw [if_neg (by omega), List.drop_length]; simp
 | d + 1, i, k, b, h => by
  have ih := fun b => V_l0 L C N hC d (i + 1) k b (by omega)
  obtain ⟨K, hK⟩ : ∃ K, K = k + d + 1 := ⟨_, rfl⟩
  rw [← hK] at ih
  rw [show k + (d + 1) + 1 = K + 1 by omega]
  simp only [pledgeref18_Valid.l0]
  rw [if_pos (by omega), drop_int C i (by omega), List.all_cons, rd_nat', wn i (by omega)]
  cases b with
  | false => rw [if_neg (by simp), ih]; simp
  | true =>
   rw [if_pos rfl, if_pos (by omega)]
   by_cases h1 : C.getD i 0 ≥ 0
   ·
    rw [if_pos h1, ih]
    have e : decide (C.getD i 0 ≤ 1000000000000) = inB (C.getD i 0) 1000000000000 := by unfold inB; exact decide_eq_decide.2 (by omega)
    rw [e, Bool.true_and]
   ·
    rw [if_neg h1, ih]
    have e : inB (C.getD i 0) 1000000000000 = false := by unfold inB; exact decide_eq_false (by omega)
    rw [e]; rfl
theorem V_l1 (L : List S47) (C : List Int) (N : Int) (hL : L.length ≤ 8) : ∀ (d i k : Nat) (b : Bool), i + d = L.length → pledgeref18_Valid.l1 (k + d + 1) b (i : Int) L C N = some (if (b && (L.drop i).all fun x => lotB x (C.length : Int)) = true then 0 else 103)
 | 0, i, k, b, h => by
  obtain rfl : i = L.length := by omega
  simp only [Nat.add_zero, pledgeref18_Valid.l1]
  rw [if_neg (by omega), List.drop_length]; cases b <;> simp
 | d + 1, i, k, b, h => by
  have ih := fun b => V_l1 L C N hL d (i + 1) k b (by omega)
  obtain ⟨K, hK⟩ : ∃ K, K = k + d + 1 := ⟨_, rfl⟩
  rw [← hK] at ih
  rw [show k + (d + 1) + 1 = K + 1 by omega]
  simp only [pledgeref18_Valid.l1]
  rw [if_pos (by omega), if_pos (by omega), drop_lot L i (by omega), List.all_cons, rd_lt, wn i (by omega)]
  have hi := lotB_iff (lt L i) (C.length : Int)
  cases b with
  | false => rw [if_neg (by simp), ih]; simp
  | true =>
   have key : ∀ b', b' = lotB (lt L i) (C.length : Int) → pledgeref18_Valid.l1 K b' ((i + 1 : Nat) : Int) L C N = some (if (true && (lotB (lt L i) (C.length : Int) && (L.drop (i + 1)).all fun x => lotB x (C.length : Int))) = true then 0 else 103) := by
    intro b' e; rw [ih, e, Bool.true_and]
   have no : ∀ q : Prop, q = ((((0 ≤ (lt L i).f0 ∧ (lt L i).f0 ≤ 1000) ∧ (0 ≤ (lt L i).f1 ∧ (lt L i).f1 ≤ 1000000000)) ∧ (0 ≤ (lt L i).f2 ∧ (lt L i).f2 ≤ 1000000000)) ∧ (0 ≤ (lt L i).f3 ∧ (lt L i).f3 < (C.length : Int))) → ¬ q → false = lotB (lt L i) (C.length : Int) := by
    intro q e hq; rw [e, ← hi] at hq; exact (Bool.eq_false_iff.2 hq).symm
   rw [if_pos rfl]
   by_cases h0 : (lt L i).f0 ≥ 0
   ·
    rw [if_pos h0]
    by_cases h1 : (lt L i).f0 ≤ 1000
    ·
     rw [if_pos h1]
     by_cases h2 : (lt L i).f1 ≥ 0
     ·
      rw [if_pos h2]
      by_cases h3 : (lt L i).f1 ≤ 1000000000
      ·
       rw [if_pos h3]
       by_cases h4 : (lt L i).f2 ≥ 0
       ·
        rw [if_pos h4]
        by_cases h5 : (lt L i).f2 ≤ 1000000000
        ·
         rw [if_pos h5]
         by_cases h6 : (lt L i).f3 ≥ 0
         ·
          rw [if_pos h6]
          refine key _ ?_
          by_cases h7 : (lt L i).f3 < (C.length : Int)
          · rw [decide_eq_true h7]; exact (hi.2 (by omega)).symm
          · rw [decide_eq_false h7]; exact no _ rfl (by omega)
         · rw [if_neg h6]; exact key _ (no _ rfl (by omega))
        · rw [if_neg h5]; exact key _ (no _ rfl (by omega))
       · rw [if_neg h4]; exact key _ (no _ rfl (by omega))
      · rw [if_neg h3]; exact key _ (no _ rfl (by omega))
     · rw [if_neg h2]; exact key _ (no _ rfl (by omega))
    · rw [if_neg h1]; exact key _ (no _ rfl (by omega))
   · rw [if_neg h0]; exact key _ (no _ rfl (by omega))
theorem RValid_eq (L : List S47) (C : List Int) (N : Int) : ∃ v, lots_Valid.f L C N = some v ∧ (v = none ∨ v = some 103 ∨ v = some 105) ∧ ∀ k, 40 < k → pledgeref18_Valid.f k L C N = some (v.getD 0) := by
 by_cases hm : L.length = 0 ∨ 8 < L.length ∨ C.length = 0 ∨ 8 < C.length
 ·
  refine ⟨some 105, by unfold lots_Valid.f; rw [if_pos hm], .inr (.inr rfl), fun k hk => ?_⟩
  obtain ⟨k, rfl⟩ : ∃ m, k = m + 1 := ⟨k - 1, by omega⟩
  have hj : pledgeref18_Valid.j0 (k + 1) true L C N = some 105 := by simp only [pledgeref18_Valid.j0]; rw [if_pos trivial]
  unfold pledgeref18_Valid.f
  by_cases h1 : (L.length : Int) < 1
  · rw [if_pos h1, hj]; rfl
  ·
   rw [if_neg h1]
   by_cases h2 : (L.length : Int) > 8
   · rw [if_pos h2, hj]; rfl
   ·
    rw [if_neg h2]
    by_cases h3 : (C.length : Int) < 1
    · rw [if_pos h3, hj]; rfl
    · rw [if_neg h3, decide_eq_true (by omega), hj]; rfl
 ·
  refine ⟨if (N, C.all fun n => inB n 1000000000000, L.all fun x => lotB x (C.length : Int)) = (N, true, true) ∧ inB N 1000000000000 = true then none else some 103, ?_, ?_, fun k hk => ?_⟩
  ·
   unfold lots_Valid.f
   rw [if_neg hm, any_inB, any_lotB]
   cases (L.all fun x => lotB x (C.length : Int)) <;> cases (C.all fun n => inB n 1000000000000) <;> cases inB N 1000000000000 <;> simp
  ·
   split
   · exact .inl rfl
   · exact .inr (.inl rfl)
  ·
   unfold pledgeref18_Valid.f
   obtain ⟨k, rfl⟩ : ∃ m, k = m + 1 := ⟨k - 1, by omega⟩
   rw [if_neg (by omega), if_neg (by omega), if_neg (by omega), decide_eq_false (by omega)]
   obtain ⟨k1, rfl⟩ : ∃ m, k = m + 1 := ⟨k - 1, by omega⟩
   have hj : ∀ b, pledgeref18_Valid.j1 (k1 + 1) b L C N = some (if ((b && (C.all fun n => inB n 1000000000000)) && (L.all fun x => lotB x (C.length : Int))) = true then 0 else 103) := by
    intro b
    simp only [pledgeref18_Valid.j1]
    obtain ⟨k2, rfl⟩ : ∃ m, k1 = m + C.length + 1 := ⟨k1 - C.length - 1, by omega⟩
    have e1 := V_l0 L C N (by omega) C.length 0 k2 b (by omega)
    rw [show ((0 : Nat) : Int) = 0 from rfl] at e1
    rw [e1]
    obtain ⟨k3, rfl⟩ : ∃ m, k2 = m + L.length + 1 := ⟨k2 - L.length - 1, by omega⟩
    have e2 := V_l1 L C N (by omega) L.length 0 k3 (b && ((C.drop 0).all fun n => inB n 1000000000000)) (by omega)
    rw [show ((0 : Nat) : Int) = 0 from rfl] at e2
    rw [e2, List.drop_zero, List.drop_zero]
   have hb : pledgeref18_Valid.j0 (k1 + 1 + 1) false L C N = pledgeref18_Valid.j1 (k1 + 1) (inB N 1000000000000) L C N := by
    simp only [pledgeref18_Valid.j0]
    rw [if_neg (by simp)]
    by_cases h : N ≥ 0
    · rw [if_pos h]; congr 1; unfold inB; exact decide_eq_decide.2 (by omega)
    · rw [if_neg h]; congr 1; unfold inB; exact (decide_eq_false (by omega)).symm
   rw [hb, hj]
   cases (L.all fun x => lotB x (C.length : Int)) <;> cases (C.all fun n => inB n 1000000000000) <;> cases inB N 1000000000000 <;> simp
theorem RV_ok {L : List S47} {C : List Int} {N : Int} (hV : lots_Valid.f L C N = some none) (k : Nat) (hk : 40 < k) : pledgeref18_Valid.f k L C N = some 0 := by
 obtain ⟨v, h1, _, h2⟩ := RValid_eq L C N
 rw [hV] at h1
 obtain rfl := Option.some.inj h1
 exact h2 k hk
theorem RR_l0 (L : List S47) (C T : List Int) (hL : L.length ≤ 8) (hT : T.length = L.length) (N : Int) : ∀ (d i k : Nat), i + d = L.length → pledgeref18_right.l0 (k + d + 1) T (i : Int) L C N = some (fb L T i d)
 | 0, i, k, h => by
  simp only [Nat.add_zero, pledgeref18_right.l0, fb]
  rw [if_neg (by omega)]
 | d + 1, i, k, h => by
  have ih := RR_l0 L C T hL hT N d (i + 1) k (by omega)
  obtain ⟨K, hK⟩ : ∃ K, K = k + d + 1 := ⟨_, rfl⟩
  rw [← hK] at ih
  rw [show k + (d + 1) + 1 = K + 1 by omega]
  simp only [pledgeref18_right.l0, fb]
  rw [if_pos (by omega), if_pos (by omega), rd_nat', rd_lt]
  by_cases h1 : T.getD i 0 < 0
  · rw [if_pos h1, decide_eq_false (by omega)]; rfl
  ·
   rw [if_neg h1, if_pos (by omega)]
   by_cases h2 : T.getD i 0 > (lt L i).f0
   · rw [if_pos h2, decide_eq_false (by omega)]; rfl
   · rw [if_neg h2, decide_eq_true (by omega), wn i (by omega), ih]; rfl
theorem right_g {L : List S47} {C : List Int} {N : Int} (hV : lots_Valid.f L C N = some none) (T : List Int) (k : Nat) (hk : 50 < k) : pledgeref18_right.f k L C N T = some (fitB L T) := by
 have hL := (Valid_none hV).1
 unfold pledgeref18_right.f
 rw [RV_ok hV k (by omega), Option.bind_some, if_pos rfl]
 obtain ⟨k1, rfl⟩ : ∃ m, k = m + 1 := ⟨k - 1, by omega⟩
 simp only [pledgeref18_right.j0]
 unfold fitB
 by_cases h : T.length = L.length
 ·
  have e : ((T.length : Int) != (L.length : Int)) = false := by rw [h]; simp
  rw [e, decide_eq_true h]
  simp only [Bool.false_eq_true, if_false, Bool.true_and]
  obtain ⟨k2, rfl⟩ : ∃ m, k1 = m + L.length + 1 := ⟨k1 - L.length - 1, by omega⟩
  exact RR_l0 L C T (by omega) h N L.length 0 k2 (by omega)
 ·
  have e : ((T.length : Int) != (L.length : Int)) = true := by rw [bne_iff_ne]; omega
  rw [e, decide_eq_false h]
  rfl
theorem RW_l1 {L : List S47} {C T : List Int} (P : OkP L C) (hT : okT L T) (N : Int) (j : Nat) (hj : j < C.length) : ∀ (d i k : Nat), i + d = L.length → pledgeref18_Worth.l1 (k + d + 1) T (gV L C T j) (j : Int) (gS L T (j : Int) i) (i : Int) L C N = pledgeref18_Worth.l0 k T (gV L C T (j + 1)) ((j + 1 : Nat) : Int) L C N
 | 0, i, k, h => by
  obtain rfl : i = L.length := by omega
  have hc8 := P.c8
  have hl8 := P.l8
  have hT1 := hT.1
  have b1 := gV_bd (C := C) P.lots hT hl8 j
  have b3 := gS_bd P.lots hT (j : Int) L.length (by omega)
  have b2 := cap_bd (C.getD j 0) _ b3.1
  simp only [Nat.add_zero, pledgeref18_Worth.l1]
  rw [if_neg (by omega), if_pos (by omega), if_pos (by omega), rd_nat', wn j (by omega)]
  have e : gV L C T (j + 1) = gV L C T j + cap1 (C.getD j 0) (gS L T (j : Int) L.length) := by simp only [gV]; rw [hT1]
  by_cases hc : C.getD j 0 > 0
  ·
   rw [if_pos hc]
   by_cases h2 : gS L T (j : Int) L.length > C.getD j 0
   ·
    have e2 : cap1 (C.getD j 0) (gS L T (j : Int) L.length) = C.getD j 0 := by unfold cap1 mn; rw [if_pos hc]; split <;> omega
    rw [if_pos h2]; rw [e2] at e b2; rw [← e, w64m _ (by omega) (by omega)]
   ·
    have e2 : cap1 (C.getD j 0) (gS L T (j : Int) L.length) = gS L T (j : Int) L.length := by unfold cap1 mn; rw [if_pos hc]; split <;> omega
    rw [if_neg h2]; rw [e2] at e b2; rw [← e, w64m _ (by omega) (by omega)]
  ·
   have e2 : cap1 (C.getD j 0) (gS L T (j : Int) L.length) = gS L T (j : Int) L.length := if_neg hc
   rw [if_neg hc]; rw [e2] at e b2; rw [← e, w64m _ (by omega) (by omega)]
 | d + 1, i, k, h => by
  have ih := RW_l1 P hT N j hj d (i + 1) k (by omega)
  have hT1 := hT.1
  have hl8 := P.l8
  have hi : i < L.length := by omega
  have b1 := gS_bd P.lots hT (j : Int) i (by omega)
  have b2 := pr_bd P.lots hT i hi
  obtain ⟨K, hK⟩ : ∃ K, K = k + d + 1 := ⟨_, rfl⟩
  rw [← hK] at ih
  rw [show k + (d + 1) + 1 = K + 1 by omega]
  have ew1 : wrap64 (T.getD i 0 * (lt L i).f1) = T.getD i 0 * (lt L i).f1 := w64m _ (by omega) (by omega)
  have ew2 : wrap64 (gS L T (j : Int) i + T.getD i 0 * (lt L i).f1) = gS L T (j : Int) i + T.getD i 0 * (lt L i).f1 := w64m _ (by omega) (by omega)
  simp only [pledgeref18_Worth.l1]
  rw [if_pos (by omega), if_pos (by omega), if_pos (by omega), rd_lt, rd_nat', ew1, ew2, wn i (by omega)]
  by_cases hg : (lt L i).f3 = (j : Int)
  · rw [if_pos hg, ← ih]; congr 1; simp only [gS]; rw [if_pos hg]
  · rw [if_neg hg, ← ih]; congr 1; simp only [gS]; rw [if_neg hg]; omega
theorem RW_l0 {L : List S47} {C T : List Int} (P : OkP L C) (hT : okT L T) (N : Int) : ∀ (d j k : Nat), j + d = C.length → d * 20 < k → pledgeref18_Worth.l0 k T (gV L C T j) (j : Int) L C N = some (gW L C T, true)
 | 0, j, k, h, hk => by
  obtain rfl : j = C.length := by omega
  obtain ⟨k, rfl⟩ : ∃ m, k = m + 1 := ⟨k - 1, by omega⟩
  simp only [pledgeref18_Worth.l0]
  rw [if_neg (by omega)]
  rfl
 | d + 1, j, k, h, hk => by
  have hl8 := P.l8
  obtain ⟨k, rfl⟩ : ∃ m, k = m + 1 := ⟨k - 1, by omega⟩
  simp only [pledgeref18_Worth.l0]
  rw [if_pos (by omega)]
  obtain ⟨k2, rfl⟩ : ∃ m, k = m + L.length + 1 := ⟨k - L.length - 1, by omega⟩
  have e := RW_l1 P hT N j (by omega) L.length 0 k2 (by omega)
  rw [show ((0 : Nat) : Int) = 0 from rfl, show gS L T (j : Int) 0 = 0 from rfl] at e
  rw [e]
  exact RW_l0 P hT N d (j + 1) k2 (by omega) (by omega)
theorem RWorth_g {L : List S47} {C : List Int} {N : Int} (hV : lots_Valid.f L C N = some none) (T : List Int) (k : Nat) (hk : 200 < k) : pledgeref18_Worth.f k L C N T = some (if fitB L T = true then (gW L C T, true) else (0, false)) := by
 have P := okP_of hV
 have hc8 := P.c8
 unfold pledgeref18_Worth.f
 rw [right_g hV T k (by omega), Option.bind_some]
 by_cases h : fitB L T = true
 ·
  rw [if_pos h, if_pos h]
  exact RW_l0 P ((fitB_iff L T).1 h) N C.length 0 k (by omega) (by omega)
 · rw [if_neg h, if_neg h]
theorem RC_l0 {L : List S47} {C T : List Int} (P : OkP L C) (hT : okT L T) (N : Int) : ∀ (d i k : Nat), i + d = L.length → pledgeref18_Cost.l0 (k + d + 1) T (gK L T i) (i : Int) L C N = some (gK L T L.length, true)
 | 0, i, k, h => by
  obtain rfl : i = L.length := by omega
  have hT1 := hT.1
  simp only [Nat.add_zero, pledgeref18_Cost.l0]
  rw [if_neg (by omega)]
 | d + 1, i, k, h => by
  have ih := RC_l0 P hT N d (i + 1) k (by omega)
  have hT1 := hT.1
  have hl8 := P.l8
  have hi : i < L.length := by omega
  have b1 := gK_bd P.lots hT i (by omega)
  have b2 := pk_bd P.lots hT i hi
  have ew1 : wrap64 (T.getD i 0 * (lt L i).f2) = T.getD i 0 * (lt L i).f2 := w64m _ (by omega) (by omega)
  have ew2 : wrap64 (gK L T i + T.getD i 0 * (lt L i).f2) = gK L T (i + 1) := w64m _ (by omega) (by omega)
  obtain ⟨K, hK⟩ : ∃ K, K = k + d + 1 := ⟨_, rfl⟩
  rw [← hK] at ih
  rw [show k + (d + 1) + 1 = K + 1 by omega]
  simp only [pledgeref18_Cost.l0]
  rw [if_pos (by omega), if_pos (by omega), if_pos (by omega), rd_lt, rd_nat', ew1, ew2, wn i (by omega), ih]
theorem RCost_g {L : List S47} {C : List Int} {N : Int} (hV : lots_Valid.f L C N = some none) (T : List Int) (k : Nat) (hk : 200 < k) : pledgeref18_Cost.f k L C N T = some (if fitB L T = true then (gK L T L.length, true) else (0, false)) := by
 have P := okP_of hV
 have hl8 := P.l8
 unfold pledgeref18_Cost.f
 rw [right_g hV T k (by omega), Option.bind_some]
 by_cases h : fitB L T = true
 ·
  rw [if_pos h, if_pos h]
  obtain ⟨k1, rfl⟩ : ∃ m, k = m + L.length + 1 := ⟨k - L.length - 1, by omega⟩
  exact RC_l0 P ((fitB_iff L T).1 h) N L.length 0 k1 (by omega)
 · rw [if_neg h, if_neg h]
/-- Does a choice fit? -/
def ftB (L : List S47) (C : List Int) (N : Int) (T : List Int) : Bool := fitB L T && decide (gW L C T ≥ N)
theorem RFits_g {L : List S47} {C : List Int} {N : Int} (hV : lots_Valid.f L C N = some none) (T : List Int) (k : Nat) (hk : 200 < k) : pledgeref18_Fits.f k L C N T = some (ftB L C N T) := by
 unfold pledgeref18_Fits.f ftB
 rw [RWorth_g hV T k hk, Option.bind_some]
 by_cases h : fitB L T = true
 · rw [if_pos h, h]; rfl
 · rw [if_neg h, Bool.eq_false_iff.2 h]; rfl
theorem Fits_b {L : List S47} {C : List Int} {N : Int} (hV : lots_Valid.f L C N = some none) (T : List Int) (k : Nat) (hk : 20 < k) : lots_Fits.f k L C N T = some (ftB L C N T) := by
 unfold lots_Fits.f ftB
 rw [Worth_g hV T k hk, Option.bind_some]
 by_cases h : fitB L T = true
 · rw [if_pos h, h]; rfl
 · rw [if_neg h, Bool.eq_false_iff.2 h]; rfl
theorem bad_right {L : List S47} {C : List Int} {N : Int} (c : Int) (hc : c ≠ 0) (k : Nat) (h : pledgeref18_Valid.f k L C N = some c) (hk : 1 < k) (T : List Int) : pledgeref18_right.f k L C N T = some false := by
 unfold pledgeref18_right.f
 rw [h, Option.bind_some, if_neg hc]
 obtain ⟨k1, rfl⟩ : ∃ m, k = m + 1 := ⟨k - 1, by omega⟩
 simp only [pledgeref18_right.j0]
 rw [if_pos trivial]
theorem bad_Worth {L : List S47} {C : List Int} {N : Int} (c : Int) (hc : c ≠ 0) (k : Nat) (h : pledgeref18_Valid.f k L C N = some c) (hk : 1 < k) (T : List Int) : pledgeref18_Worth.f k L C N T = some (0, false) := by
 unfold pledgeref18_Worth.f; rw [bad_right c hc k h hk T]; rfl
theorem bad_Cost {L : List S47} {C : List Int} {N : Int} (c : Int) (hc : c ≠ 0) (k : Nat) (h : pledgeref18_Valid.f k L C N = some c) (hk : 1 < k) (T : List Int) : pledgeref18_Cost.f k L C N T = some (0, false) := by
 unfold pledgeref18_Cost.f; rw [bad_right c hc k h hk T]; rfl
theorem bad_RFits {L : List S47} {C : List Int} {N : Int} (c : Int) (hc : c ≠ 0) (k : Nat) (h : pledgeref18_Valid.f k L C N = some c) (hk : 1 < k) (T : List Int) : pledgeref18_Fits.f k L C N T = some false := by
 unfold pledgeref18_Fits.f; rw [bad_Worth c hc k h hk T]; rfl
theorem bad_Fits {L : List S47} {C : List Int} {N : Int} (c : Int) (h : lots_Valid.f L C N = some (some c)) (k : Nat) (hk : 1 < k) (T : List Int) : lots_Fits.f k L C N T = some false := by
 obtain ⟨k1, rfl⟩ : ∃ m, k = m + 1 := ⟨k - 1, by omega⟩
 have e : lots_fits.f (k1 + 1) L C N T = some false := by
  unfold lots_fits.f; rw [h, Option.bind_some, if_neg (by simp)]; simp only [lots_fits.j0]; rw [if_pos trivial]
 unfold lots_Fits.f lots_Worth.f; rw [e]; rfl
theorem dearer_eq (a b : S47) (ha : okL a) (hb : okL b) (ha0 : 0 < a.f1) (hb0 : 0 < b.f1) (k : Nat) (hk : 10 < k) : pledgeref18_dearer.f k a.f0 a.f1 a.f2 a.f3 b.f0 b.f1 b.f2 b.f3 = some (decide (b.f2 * a.f1 < a.f2 * b.f1)) := by
 obtain ⟨_, a1, a2⟩ := ha
 obtain ⟨_, b1, b2⟩ := hb
 unfold pledgeref18_dearer.f
 rw [if_neg (by omega), if_neg (by omega), RCmp_eq _ _ _ _ (by unfold In64; omega) (by unfold In64; omega) (by unfold In64; omega) (by unfold In64; omega) k (by omega), Option.bind_some]
 by_cases h1 : a.f2 * b.f1 < b.f2 * a.f1
 · rw [if_pos h1, decide_eq_false (by omega), decide_eq_false (by omega)]
 ·
  rw [if_neg h1]
  by_cases h2 : b.f2 * a.f1 < a.f2 * b.f1
  · rw [if_pos h2, decide_eq_true (by omega), decide_eq_true h2]
  · rw [if_neg h2, decide_eq_false (by omega), decide_eq_false h2]
theorem Rate_same (L : List S47) (C : List Int) (N : Int) (hL : L.length ≤ 8) (ok : ∀ x ∈ L, okL x) : ∀ (d i k : Nat) (x : Int), i + d = L.length → d + 20 < k → (x = -1 ∨ ∃ b : Nat, x = (b : Int) ∧ b < L.length ∧ 0 < (lt L b).f1) → pledgeref18_Rate.l0 k x (i : Int) L C N = bound_Rate.l0 k x (i : Int) L C N
 | 0, i, k, x, h, hk, hx => by
  obtain ⟨k, rfl⟩ : ∃ m, k = m + 1 := ⟨k - 1, by omega⟩
  have n1 : ¬ (i : Int) < (L.length : Int) := by omega
  simp only [pledgeref18_Rate.l0, bound_Rate.l0, if_neg n1]
 | d + 1, i, k, x, h, hk, hx => by
  obtain ⟨k, rfl⟩ : ∃ m, k = m + 1 := ⟨k - 1, by omega⟩
  have ih := fun x => Rate_same L C N hL ok d (i + 1) k x (by omega) (by omega)
  have n1 : (i : Int) < (L.length : Int) := by omega
  have n2 : (0 : Int) ≤ (i : Int) := by omega
  have okI := lt_ok ok i (by omega)
  simp only [pledgeref18_Rate.l0, bound_Rate.l0, if_pos n1, if_pos n2, rd_lt, wn i (by omega)]
  by_cases g1 : (lt L i).f1 > 0
  ·
   by_cases g0 : (lt L i).f0 > 0
   ·
    simp only [if_pos g1, if_pos g0]
    rcases hx with rfl | ⟨b, rfl, hb, hv⟩
    ·
     rw [if_pos (by omega), if_pos (by omega)]
     exact ih _ (.inr ⟨i, rfl, by omega, g1⟩)
    ·
     have m1 : ¬ (b : Int) < 0 := by omega
     have m2 : (0 : Int) ≤ (b : Int) := by omega
     have m3 : (b : Int) < (L.length : Int) := by omega
     have okB := lt_ok ok b hb
     simp only [if_neg m1, if_pos m2, if_pos m3, rd_lt]
     rw [Cheaper_eq _ _ okI okB k (by omega), dearer_eq _ _ okB okI hv g1 k (by omega)]
     have hc : chp (lt L i) (lt L b) = decide ((lt L i).f2 * (lt L b).f1 < (lt L b).f2 * (lt L i).f1) := by
      unfold chp; rw [if_neg (by omega), if_neg (by omega)]
     rw [hc, Option.bind_some, Option.bind_some, ih _ (.inr ⟨i, rfl, by omega, g1⟩), ih _ (.inr ⟨b, rfl, hb, hv⟩)]
   ·
    simp only [if_pos g1, if_neg g0]
    exact ih _ hx
  ·
   simp only [if_neg g1]
   exact ih _ hx
theorem Least_same {L : List S47} {C : List Int} {N : Int} (hv : lots_Valid.f L C N = some none) (x : Int) (hx : In64 x) (k : Nat) (hk : 500 < k) : pledgeref18_Least.f k L C N 0 x = bound_Least.f k L C N 0 x := by
 obtain ⟨hL, ok, _⟩ := Valid_none hv
 have ok' : ∀ x ∈ L, okL x := fun x hx => (ok x hx).1
 unfold pledgeref18_Least.f bound_Least.f
 rw [RV_ok hv k (by omega), is_eq hv, decide_eq_true (show 0 ≤ (0 : Int) ∧ (0 : Int) ≤ (L.length : Int) by omega), Option.bind_some, Option.bind_some, if_pos rfl, if_pos rfl, if_neg (by omega), decide_eq_false (by omega)]
 obtain ⟨k1, rfl⟩ : ∃ m, k = m + 1 := ⟨k - 1, by omega⟩
 simp only [pledgeref18_Least.j0]
 rw [if_neg (by simp)]
 by_cases h0 : x ≤ 0
 · rw [if_pos h0, if_pos h0]
 rw [if_neg h0, if_neg h0]
 obtain ⟨k2, rfl⟩ : ∃ m, k1 = m + 1 := ⟨k1 - 1, by omega⟩
 obtain ⟨r, hr, hi⟩ := Rate_eq hv 0 (by omega) k2 (by omega)
 rw [show ((0 : Nat) : Int) = 0 from rfl] at hr
 have hr1 := bound_Rate.mono _ _ _ _ _ _ hr
 have hr2 := bound_Rate.mono _ _ _ _ _ _ hr1
 have hl0 : bound_Rate.f k2 L C N 0 = bound_Rate.l0 k2 (-1) 0 L C N := by
  unfold bound_Rate.f
  rw [is_eq hv, decide_eq_true (show 0 ≤ (0 : Int) ∧ (0 : Int) ≤ (L.length : Int) by omega), Option.bind_some, if_pos rfl]
 have hq : pledgeref18_Rate.f (k2 + 1) L C N 0 = some r := by
  unfold pledgeref18_Rate.f
  rw [RV_ok hv (k2 + 1) (by omega), Option.bind_some, if_pos rfl]
  simp only [pledgeref18_Rate.j0]
  rw [if_neg (by simp)]
  have e := Rate_same L C N hL.2 ok' L.length 0 k2 (-1) (by omega) (by omega) (.inl rfl)
  rw [show ((0 : Nat) : Int) = 0 from rfl] at e
  rw [e, ← hl0, hr]
 rw [hq, hr2, Option.bind_some, Option.bind_some]
 rcases hi with ⟨rfl, _⟩ | ⟨b, hb, rfl⟩
 · rfl
 ·
  obtain ⟨_, o1, o2⟩ := lt_ok ok' b hb.2.1
  have hbv := hb.2.2.1.1
  simp only [if_true]
  rw [Div_eq x _ _ true hx (by unfold In64; omega) hbv (by omega) (k2 + 1 + 1) (by omega), RDiv_eq x _ _ true hx (by unfold In64; omega) hbv (by omega) (k2 + 1) (by omega)]
/-- What is taken of the first i lots is worth, without caps. -/
def tot (L : List S47) (T : List Int) : Nat → Int
 | 0 => 0
 | i + 1 => tot L T i + T.getD i 0 * (lt L i).f1
/-- By groups. -/
def gG (L : List S47) (T : List Int) : Nat → Nat → Int
 | 0, _ => 0
 | m + 1, n => gG L T m n + gS L T (m : Int) n
theorem gG_zero (L : List S47) (T : List Int) : ∀ m : Nat, gG L T m 0 = 0
 | 0 => rfl
 | m + 1 => by simp only [gG, gS, gG_zero L T m]; rfl
theorem gG_succ (L : List S47) (T : List Int) (n : Nat) : ∀ m : Nat, gG L T m (n + 1) = gG L T m n + (if 0 ≤ (lt L n).f3 ∧ (lt L n).f3 < (m : Int) then T.getD n 0 * (lt L n).f1 else 0)
 | 0 => by simp only [gG]; rw [if_neg (by omega)]; rfl
 | m + 1 => by
  simp only [gG, gS, gG_succ L T n m]
  generalize T.getD n 0 * (lt L n).f1 = p
  generalize (lt L n).f3 = g
  by_cases h1 : g = (m : Int)
  · rw [if_neg (by omega), if_pos h1, if_pos (by omega)]; omega
  ·
   by_cases h2 : 0 ≤ g ∧ g < (m : Int)
   · rw [if_pos h2, if_neg h1, if_pos (by omega)]; omega
   · rw [if_neg h2, if_neg h1, if_neg (by omega)]; omega
theorem gG_tot {L : List S47} {T : List Int} (ok : ∀ x ∈ L, okL x) (hT : okT L T) (m : Nat) : ∀ n : Nat, n ≤ L.length → gG L T m n ≤ tot L T n
 | 0, _ => by rw [gG_zero]; exact Int.le_refl _
 | n + 1, h => by
  have ih := gG_tot ok hT m n (by omega)
  have hp := (pr_bd ok hT n (by omega)).1
  rw [gG_succ]
  simp only [tot]
  split <;> omega
theorem gV_gG {L : List S47} {C T : List Int} (ok : ∀ x ∈ L, okL x) (hT : okT L T) : ∀ m : Nat, gV L C T m ≤ gG L T m T.length
 | 0 => Int.le_refl _
 | m + 1 => by
  have ih := gV_gG (C := C) ok hT m
  have b := (gS_bd ok hT (m : Int) T.length (by rw [hT.1]; omega)).1
  have c := (cap_bd (C.getD m 0) _ b).2
  simp only [gV, gG]
  omega
theorem tot_none {L : List S47} {T : List Int} (ok : ∀ x ∈ L, okL x) (hT : okT L T) (hn : ∀ j, 0 ≤ j → j < L.length → ¬ good L j) : ∀ n : Nat, n ≤ L.length → tot L T n = 0
 | 0, _ => rfl
 | n + 1, h => by
  have ih := tot_none ok hT hn n (by omega)
  have hg := hn n (Nat.zero_le _) (by omega)
  obtain ⟨⟨o0, _⟩, ⟨o1, _⟩, _⟩ := lt_ok ok n (by omega)
  have ht := hT.2 n (by omega)
  unfold good at hg
  simp only [tot, ih]
  by_cases h1 : (lt L n).f1 = 0
  · rw [h1]; simp
  ·
   have : T.getD n 0 = 0 := by omega
   rw [this]; simp
theorem tot_cost {L : List S47} {T : List Int} (ok : ∀ x ∈ L, okL x) (hT : okT L T) (b : Nat) (hb : best L 0 L.length b) : ∀ n : Nat, n ≤ L.length → tot L T n * (lt L b).f2 ≤ gK L T n * (lt L b).f1
 | 0, _ => by simp [tot, gK]
 | n + 1, h => by
  have ih := tot_cost ok hT b hb n (by omega)
  obtain ⟨⟨o0, _⟩, ⟨o1, _⟩, ⟨o2, _⟩⟩ := lt_ok ok n (by omega)
  have ht := hT.2 n (by omega)
  have hbv := hb.2.2.1.1
  have key : T.getD n 0 * (lt L n).f1 * (lt L b).f2 ≤ T.getD n 0 * (lt L n).f2 * (lt L b).f1 := by
   by_cases hg : good L n
   ·
    have h1 := hb.2.2.2 n (Nat.zero_le _) (by omega) hg
    have h2 := Int.mul_le_mul_of_nonneg_left h1 ht.1
    have e1 : T.getD n 0 * (lt L n).f1 * (lt L b).f2 = T.getD n 0 * ((lt L b).f2 * (lt L n).f1) := by grind
    have e2 : T.getD n 0 * (lt L n).f2 * (lt L b).f1 = T.getD n 0 * ((lt L n).f2 * (lt L b).f1) := by grind
    rw [e1, e2]; exact h2
   ·
    have hz : T.getD n 0 * (lt L n).f1 = 0 := by
     unfold good at hg
     by_cases h1 : (lt L n).f1 = 0
     · rw [h1]; simp
     ·
      have : T.getD n 0 = 0 := by omega
      rw [this]; simp
    rw [hz, Int.zero_mul]
    exact Int.mul_nonneg (Int.mul_nonneg ht.1 o2) (by omega)
  simp only [tot, gK, Int.add_mul]
  omega
theorem Least_there {L : List S47} {C : List Int} {N : Int} (hv : lots_Valid.f L C N = some none) {T : List Int} (hT : okT L T) (hW : N ≤ gW L C T) (k : Nat) (hk : 60 < k) : ∃ n, bound_Least.f k L C N 0 N = some (n, true) := by
 obtain ⟨hL, okk, _, _, hN0, hN1⟩ := Valid_none hv
 have ok : ∀ x ∈ L, okL x := fun x hx => (okk x hx).1
 obtain ⟨l1, l2, l3⟩ := Least_eq hv 0 (by omega) N (by unfold In64; omega) k hk
 rw [show ((0 : Nat) : Int) = 0 from rfl] at l1 l2 l3
 by_cases hN : N ≤ 0
 · exact ⟨0, l1 hN⟩
 have hle : gW L C T ≤ tot L T L.length := by
  have h1 := gV_gG (C := C) ok hT C.length
  have h2 := gG_tot ok hT C.length L.length (Nat.le_refl _)
  rw [hT.1] at h1
  unfold gW
  omega
 by_cases hn : ∀ j, 0 ≤ j → j < L.length → ¬ good L j
 ·
  have := tot_none ok hT hn L.length (Nat.le_refl _)
  omega
 ·
  obtain ⟨r, _, hi⟩ := Rate_eq hv 0 (by omega) k (by omega)
  rcases hi with ⟨_, h⟩ | ⟨b, hb, _⟩
  · exact absurd h hn
  ·
   obtain ⟨b', hb', e⟩ := l3 (by omega) b hb
   obtain ⟨_, ⟨o1, _⟩, ⟨o2, _⟩⟩ := lt_ok ok b' hb'.2.1
   have hv' := hb'.2.2.1.1
   have hc := tot_cost ok hT b' hb' L.length (Nat.le_refl _)
   have hm : N * (lt L b').f2 ≤ tot L T L.length * (lt L b').f2 := Int.mul_le_mul_of_nonneg_right (by omega) o2
   have hcl := cl_le N (lt L b').f2 (lt L b').f1 (gK L T L.length) hv' (by omega)
   have hcn := cl_nonneg N (lt L b').f2 (lt L b').f1 hv' (Int.mul_nonneg (by omega) o2)
   have hK := (gK_bd ok hT L.length (Nat.le_refl _)).2
   exact ⟨_, by rw [e, if_pos (by unfold In64; omega)]⟩
theorem Is_none (code : Int) : pledgesee_Is.f none code = some (decide (0 = code)) := by
 unfold pledgesee_Is.f pledgeref_Bare.f pledgesee_Same.f pledgesee_Fault.f pledgeref_None.f pledgeref_SameFault.f
 by_cases h : 0 = code <;> simp [h]
theorem Is_some (c code : Int) (h1 : 101 ≤ c) (h2 : c ≤ 121) : pledgesee_Is.f (some c) code = some (decide (c = code)) := by
 unfold pledgesee_Is.f pledgeref_Bare.f pledgesee_Same.f pledgesee_Fault.f pledgesee_sentinel.f pledgeref_Bare.f pledgeref_SameFault.f
 by_cases h : c = code <;> simp [h, h1, h2] <;> simp [← h, h1, h2]
theorem mx_comm (a b : Int) : mx a b = mx b a := by unfold mx; split <;> split <;> omega
/-- One less of a lot. -/
def le1 (T : List Int) (i : Nat) : List Int := T.set i (T.getD i 0 - 1)
/-- The first of d lots from lot i on of which one less is enough. -/
def fnd (L : List S47) (C : List Int) (N : Int) (T : List Int) : Nat → Nat → Option Nat
 | 0, _ => none
 | d + 1, i => if ftB L C N (le1 T i) = true then some i else fnd L C N T d (i + 1)
def ans (T : List Int) : Option Nat → List Int × Bool
 | some j => (le1 T j, true)
 | none => ([], false)
theorem Swap_l0 {L : List S47} {C : List Int} {N : Int} (hV : lots_Valid.f L C N = some none) {T : List Int} (hT : okT L T) : ∀ (d i k : Nat), i + d = T.length → 20 < k → cert_Swap.l0 (k + d + 1) T (T.length : Int) (i : Int) L C N = some (ans T (fnd L C N T d i))
 | 0, i, k, h, hk => by
  simp only [Nat.add_zero, cert_Swap.l0, fnd, ans]
  rw [if_neg (by omega)]
 | d + 1, i, k, h, hk => by
  have ih := Swap_l0 hV hT d (i + 1) k (by omega) hk
  have hl8 := (okP_of hV).l8
  have hT1 := hT.1
  have ht := hT.2 i (by omega)
  have ho := (lt_ok (okP_of hV).lots i (by omega)).1
  obtain ⟨K, hK⟩ : ∃ K, K = k + d + 1 := ⟨_, rfl⟩
  rw [← hK] at ih
  rw [show k + (d + 1) + 1 = K + 1 by omega]
  simp only [cert_Swap.l0, fnd]
  unfold slices_Clone_int_int.f
  rw [if_pos (by omega), if_pos (by omega), Option.bind_some, if_pos (by omega), if_pos (by omega), Option.bind_some, Int.toNat_natCast, rd_nat', w64m _ (by omega) (by omega), wn i (by omega), show T.set i (T.getD i 0 - 1) = le1 T i from rfl, Fits_b hV _ K (by omega), Option.bind_some, ih]
  split <;> rfl
theorem Swap_g {L : List S47} {C : List Int} {N : Int} (hV : lots_Valid.f L C N = some none) (T : List Int) (k : Nat) (hk : 60 < k) : cert_Swap.f k L C N T = some (if ftB L C N T = true then ans T (fnd L C N T T.length 0) else ([], false)) := by
 unfold cert_Swap.f
 rw [Fits_b hV T k (by omega), Option.bind_some]
 by_cases h : ftB L C N T = true
 ·
  rw [if_pos h, if_pos h]
  have hT : okT L T := by
   unfold ftB at h; rw [Bool.and_eq_true] at h; exact (fitB_iff L T).1 h.1
  have hl8 := (okP_of hV).l8
  have hT1 := hT.1
  obtain ⟨k1, rfl⟩ : ∃ m, k = m + T.length + 1 := ⟨k - T.length - 1, by omega⟩
  exact Swap_l0 hV hT T.length 0 k1 (by omega) (by omega)
 · rw [if_neg h, if_neg h]
theorem end_eq (s : List Int) (has : Bool) (want i : Int) (T : List Int) (w c : Int) (b : Bool) (n : Int) (L : List S47) (C : List Int) (N : Int) (k : Nat) :
  pledgelaw21_CertSays.j7 (k + 1) s has want i false T w c b n L C N = if (has != decide (want ≥ 0)) = true then some false else pledgelaw21_CertSays.l1 k s has want 0 T w c b n := by
 simp only [pledgelaw21_CertSays.j7]; rw [if_neg (by simp)]
theorem l1_nil (want : Int) (T : List Int) (w c : Int) (b : Bool) (n : Int) (k : Nat) : pledgelaw21_CertSays.l1 (k + 1) [] false want 0 T w c b n = some true := by
 simp only [pledgelaw21_CertSays.l1]; rw [if_neg (by simp), if_neg (by simp)]
theorem le1_len (T : List Int) (j : Nat) : (le1 T j).length = T.length := List.length_set
theorem l1_eq {T : List Int} (hl : T.length ≤ 1000) (ht : ∀ i, i < T.length → 0 ≤ T.getD i 0 ∧ T.getD i 0 ≤ 1000) (j : Nat) (hj : j < T.length) (w c : Int) (b : Bool) (n : Int) : ∀ (d i k : Nat), i + d = T.length → pledgelaw21_CertSays.l1 (k + d + 1) (le1 T j) true (j : Int) (i : Int) T w c b n = some true
 | 0, i, k, h => by
  simp only [Nat.add_zero, pledgelaw21_CertSays.l1]
  rw [if_neg (by rw [le1_len]; omega), if_pos trivial, le1_len]; simp
 | d + 1, i, k, h => by
  have ih := l1_eq hl ht j hj w c b n d (i + 1) k (by omega)
  obtain ⟨K, hK⟩ : ∃ K, K = k + d + 1 := ⟨_, rfl⟩
  rw [← hK] at ih
  rw [show k + (d + 1) + 1 = K + 1 by omega]
  have b1 := ht i (by omega)
  have hg : (le1 T j).getD i 0 = if i = j then T.getD j 0 - 1 else T.getD i 0 := getD_set T j i _ hj
  simp only [pledgelaw21_CertSays.l1]
  rw [if_pos (by rw [le1_len]; omega), if_pos (by omega), if_pos (by omega), rd_nat', rd_nat', wn i (by omega), w64m _ (by omega) (by omega)]
  by_cases hij : i = j
  · rw [if_pos (by omega), if_pos (by rw [hg, if_pos hij, hij]), ih]
  · rw [if_neg (by omega), if_pos (by rw [hg, if_neg hij]), ih]
theorem no_less {L : List S47} (C : List Int) (N : Int) {T : List Int} (hT : okT L T) (i : Nat) (hi : i < L.length) (h : T.getD i 0 < 1) : ftB L C N (le1 T i) = false := by
 have hf : fitB L (le1 T i) = false := Bool.eq_false_iff.2 fun e => by
  have h2 := ((fitB_iff L _).1 e).2 i hi
  have hg : (le1 T i).getD i 0 = if i = i then T.getD i 0 - 1 else T.getD i 0 := getD_set T i i _ (by rw [hT.1]; exact hi)
  rw [hg, if_pos rfl] at h2
  omega
 unfold ftB; rw [hf]; rfl
theorem law_l0 {L : List S47} {C : List Int} {N : Int} (hV : lots_Valid.f L C N = some none) {T : List Int} (hT : okT L T) (hF : ftB L C N T = true) (w c : Int) (b : Bool) (n : Int) : ∀ (d i k : Nat) (s : List Int) (has : Bool), i + d = T.length → 1100 + 4 * d < k → (s, has) = ans T (fnd L C N T d i) → pledgelaw21_CertSays.l0 k s has (-1) (i : Int) T w c b n L C N = some true
 | 0, i, k, s, has, h, hk, hs => by
  obtain ⟨k, rfl⟩ : ∃ m, k = m + 1 := ⟨k - 1, by omega⟩
  simp only [pledgelaw21_CertSays.l0]
  rw [if_neg (by omega)]
  obtain ⟨k, rfl⟩ : ∃ m, k = m + 1 := ⟨k - 1, by omega⟩
  simp only [fnd, ans, Prod.mk.injEq] at hs
  obtain ⟨rfl, rfl⟩ := hs
  rw [end_eq, if_neg (by simp)]
  obtain ⟨k, rfl⟩ : ∃ m, k = m + 1 := ⟨k - 1, by omega⟩
  exact l1_nil _ _ _ _ _ _ _
 | d + 1, i, k, s, has, h, hk, hs => by
  have hl8 := (okP_of hV).l8
  have hT1 := hT.1
  have ht := hT.2 i (by omega)
  have ho := (lt_ok (okP_of hV).lots i (by omega)).1
  obtain ⟨k, rfl⟩ : ∃ m, k = m + 1 := ⟨k - 1, by omega⟩
  simp only [pledgelaw21_CertSays.l0]
  rw [if_pos (by omega), if_pos (by omega), RFits_g hV T k (by omega), Option.bind_some, hF]
  obtain ⟨k, rfl⟩ : ∃ m, k = m + 1 := ⟨k - 1, by omega⟩
  simp only [pledgelaw21_CertSays.j7]
  rw [if_pos trivial, if_pos (by omega), if_pos (by omega), rd_nat', wn i (by omega)]
  simp only [fnd] at hs
  by_cases h1 : T.getD i 0 < 1
  ·
   rw [if_pos h1]
   rw [no_less C N hT i (by omega) h1, if_neg (by simp)] at hs
   exact law_l0 hV hT hF w c b n d (i + 1) k s has (by omega) (by omega) hs
  ·
   rw [if_neg h1, ints_g T (by omega) k (by omega), Option.bind_some, if_pos (by omega), rd_nat', Int.toNat_natCast, w64m _ (by omega) (by omega), show T.set i (T.getD i 0 - 1) = le1 T i from rfl, RFits_g hV _ k (by omega), Option.bind_some]
   by_cases h2 : ftB L C N (le1 T i) = true
   ·
    rw [if_pos h2]
    rw [if_pos h2] at hs
    simp only [ans, Prod.mk.injEq] at hs
    obtain ⟨rfl, rfl⟩ := hs
    obtain ⟨k, rfl⟩ : ∃ m, k = m + 1 := ⟨k - 1, by omega⟩
    simp only [pledgelaw21_CertSays.l0]
    obtain ⟨k, rfl⟩ : ∃ m, k = m + 1 := ⟨k - 1, by omega⟩
    rw [if_neg (show ¬ (i : Int) < 0 by omega), ite_self, end_eq, decide_eq_true (show (i : Int) ≥ 0 by omega), if_neg (by simp)]
    obtain ⟨k, rfl⟩ : ∃ m, k = m + T.length + 1 := ⟨k - T.length - 1, by omega⟩
    exact l1_eq (by omega) (fun j hj => by have := hT.2 j (by omega); have := (lt_ok (okP_of hV).lots j (by omega)).1; omega) i (by omega) w c b n T.length 0 k (by omega)
   ·
    rw [if_neg h2]
    rw [if_neg h2] at hs
    exact law_l0 hV hT hF w c b n d (i + 1) k s has (by omega) (by omega) hs
theorem law_no (L : List S47) (C : List Int) (N : Int) (T : List Int) (w c : Int) (b : Bool) (n : Int) (k : Nat) (hF : pledgeref18_Fits.f (k + 2) L C N T = some false) : pledgelaw21_CertSays.l0 (k + 3) [] false (-1) 0 T w c b n L C N = some true := by
 simp only [pledgelaw21_CertSays.l0]
 rw [hF, if_pos (show (-1 : Int) < 0 by omega), Option.bind_some, ite_self, end_eq, if_neg (by simp)]
 exact l1_nil _ _ _ _ _ _ _
theorem law_j5 {L : List S47} {C : List Int} {N : Int} (hV : lots_Valid.f L C N = some none) (T : List Int) (w c : Int) (b : Bool) (n : Int) (k : Nat) (hk : 1200 < k) : pledgelaw21_CertSays.j5 (k + 1) false L C N T w c b n L C N = some true := by
 simp only [pledgelaw21_CertSays.j5]
 rw [if_neg (by simp), Swap_g hV T k (by omega), Option.bind_some]
 by_cases h : ftB L C N T = true
 ·
  rw [if_pos h]
  have hT : okT L T := by
   have h' := h
   unfold ftB at h'; rw [Bool.and_eq_true] at h'; exact (fitB_iff L T).1 h'.1
  have hl8 := (okP_of hV).l8
  have hT1 := hT.1
  exact law_l0 hV hT h w c b n T.length 0 k _ _ (by omega) (by omega) rfl
 ·
  rw [if_neg h]
  obtain ⟨k, rfl⟩ : ∃ m, k = m + 3 := ⟨k - 3, by omega⟩
  exact law_no L C N T w c b n k (by rw [RFits_g hV T _ (by omega), Bool.eq_false_iff.2 h])
theorem Is_get (e : Option Int) (h : e = none ∨ ∃ x, e = some x ∧ 101 ≤ x ∧ x ≤ 121) : pledgesee_Is.f e (e.getD 0) = some true := by
 rcases h with rfl | ⟨x, rfl, h1, h2⟩
 · rw [Is_none]; rfl
 · rw [Is_some x _ h1 h2]; simp
theorem chk_code (L : List S47) (C : List Int) (N : Int) (T : List Int) (w c : Int) : chkF L C N T w c = none ∨ ∃ x, chkF L C N T w c = some x ∧ 101 ≤ x ∧ x ≤ 121 := by
 unfold chkF
 split
 ·
  split
  ·
   split
   ·
    split
    · exact .inr ⟨_, rfl, by omega, by omega⟩
    · exact .inl rfl
   · exact .inr ⟨_, rfl, by omega, by omega⟩
  · exact .inr ⟨_, rfl, by omega, by omega⟩
 · exact .inr ⟨_, rfl, by omega, by omega⟩
theorem chk_none {L : List S47} {C : List Int} {N : Int} {T : List Int} {w c : Int} (h : chkF L C N T w c = none) : fitB L T = true ∧ gW L C T = w ∧ gK L T L.length = c ∧ N ≤ w := by
 unfold chkF at h
 split at h
 ·
  split at h
  ·
   split at h
   ·
    split at h
    · simp at h
    · refine ⟨by assumption, by assumption, by assumption, by omega⟩
   · simp at h
  · simp at h
 · simp at h
theorem Least_ex {L : List S47} {C : List Int} {N : Int} (hV : lots_Valid.f L C N = some none) (k : Nat) (hk : 60 < k) : ∃ r, bound_Least.f k L C N 0 N = some r := by
 obtain ⟨_, _, _, _, hN0, hN1⟩ := Valid_none hV
 obtain ⟨l1, l2, l3⟩ := Least_eq hV 0 (by omega) N (by unfold In64; omega) k hk
 by_cases hN : N ≤ 0
 · exact ⟨_, l1 hN⟩
 ·
  obtain ⟨r, _, hi⟩ := Rate_eq hV 0 (by omega) k (by omega)
  rcases hi with ⟨_, h⟩ | ⟨b, hb, _⟩
  · exact ⟨_, l2 (by omega) h⟩
  ·
   obtain ⟨b', hb', e⟩ := l3 (by omega) b hb
   exact ⟨_, e⟩
theorem law_j4 {L : List S47} {C : List Int} {N : Int} (hV : lots_Valid.f L C N = some none) (T : List Int) (w c : Int) (b : Bool) (n X v : Int) (hv : v = (chkF L C N T w c).getD 0) (hX : chkF L C N T w c = none → X = c) (k : Nat) (hk : 1300 < k) : pledgelaw21_CertSays.j4 (k + 1) v X L C N T w c b n L C N = some true := by
 subst hv
 obtain ⟨_, _, _, _, hN0, hN1⟩ := Valid_none hV
 have hco := chk_code L C N T w c
 have hck := Check_g hV T w c b n k (by omega)
 simp only [pledgelaw21_CertSays.j4]
 rw [hck, Option.bind_some, Is_get _ hco, Option.bind_some, if_pos rfl, Least_same hV N (by unfold In64; omega) k (by omega)]
 unfold cert_Gap.f
 rw [hck, Option.bind_some]
 obtain ⟨k, rfl⟩ : ∃ m, k = m + 1 := ⟨k - 1, by omega⟩
 cases he : chkF L C N T w c with
 | none =>
  obtain ⟨h1, h2, h3, h4⟩ := chk_none he
  obtain ⟨m, hm⟩ := Least_there hV ((fitB_iff L T).1 h1) (by omega) (k + 1) (by omega)
  rw [hX he, hm]
  simp only [Option.bind_some, Option.isNone_none, if_true, Option.getD_none]
  rw [Is_none, decide_eq_true rfl, Option.bind_some, if_pos rfl, mx_comm, if_pos rfl]
  exact law_j5 hV T w c b n k (by omega)
 | some e =>
  rw [he] at hco
  obtain ⟨r, hr⟩ := Least_ex hV (k + 1) (by omega)
  rw [hr]
  simp only [Option.bind_some, Option.isNone_some, Bool.false_eq_true, if_false, Option.getD_some]
  have hi := Is_get (some e) hco
  rw [Option.getD_some] at hi
  rw [hi]
  simp only [Option.bind_some, if_true]
  exact law_j5 hV T w c b n k (by omega)
theorem law_ok {L : List S47} {C : List Int} {N : Int} (hV : lots_Valid.f L C N = some none) (T : List Int) (w c : Int) (b : Bool) (n : Int) (k : Nat) (hk : 1300 < k) : pledgelaw21_CertSays.j0 (k + 1 + 1 + 1 + 1 + 1) true false L C N T w c b n = some true := by
 have j3n : ∀ v X : Int, v ≠ 0 → v = (chkF L C N T w c).getD 0 → pledgelaw21_CertSays.j3 (k + 1 + 1) v X false L C N T w c b n L C N = some true := by
  intro v X hv h
  simp only [pledgelaw21_CertSays.j3]
  rw [if_neg (by simp)]
  exact law_j4 hV T w c b n X v h (fun e => by rw [e] at h; exact absurd h hv) k hk
 have j1t : ∀ W X : Int, some 102 = chkF L C N T w c → pledgelaw21_CertSays.j1 (k + 1 + 1 + 1 + 1) 0 W X true L C N T w c b n L C N = some true := by
  intro W X h
  simp only [pledgelaw21_CertSays.j1]
  rw [if_pos trivial]
  simp only [pledgelaw21_CertSays.j2]
  rw [if_neg (by omega)]
  exact j3n 102 X (by omega) (by rw [← h]; rfl)
 rw [show k + 1 + 1 + 1 + 1 + 1 = (k + 4) + 1 by omega]
 simp only [pledgelaw21_CertSays.j0]
 rw [if_neg (by simp), RV_ok hV _ (by omega), RWorth_g hV T _ (by omega), RCost_g hV T _ (by omega), Option.bind_some, Option.bind_some, Option.bind_some, if_pos rfl]
 by_cases h : fitB L T = true
 ·
  rw [if_pos h, if_pos h]
  simp only []
  rw [if_pos trivial]
  by_cases h1 : gW L C T = w
  ·
   rw [if_pos h1]
   by_cases h2 : gK L T L.length = c
   ·
    rw [show (gK L T L.length != c) = false by rw [h2]; simp]
    have e : chkF L C N T w c = if w < N then some 115 else none := by unfold chkF; rw [if_pos h, if_pos h1, if_pos h2]
    rw [show k + 4 = k + 1 + 1 + 1 + 1 by omega]
    simp only [pledgelaw21_CertSays.j1]
    rw [if_neg (by simp)]
    simp only [pledgelaw21_CertSays.j2]
    rw [if_pos trivial, h1]
    simp only [pledgelaw21_CertSays.j3]
    by_cases h3 : w < N
    ·
     rw [decide_eq_true h3, if_pos rfl]
     exact law_j4 hV T w c b n _ _ (by rw [e, if_pos h3]; rfl) (fun _ => h2) k hk
    ·
     rw [decide_eq_false h3, if_neg (by simp)]
     exact law_j4 hV T w c b n _ _ (by rw [e, if_neg h3]; rfl) (fun _ => h2) k hk
   ·
    rw [show (gK L T L.length != c) = true by rw [bne_iff_ne]; exact h2]
    exact j1t _ _ (by unfold chkF; rw [if_pos h, if_pos h1, if_neg h2])
  ·
   rw [if_neg h1]
   exact j1t _ _ (by unfold chkF; rw [if_pos h, if_neg h1])
 ·
  rw [if_neg h, if_neg h]
  simp only []
  rw [if_neg (by simp)]
  exact j1t _ _ (by unfold chkF; rw [if_neg h])
theorem law_bad {L : List S47} {C : List Int} {N : Int} (e : Int) (hV : lots_Valid.f L C N = some (some e)) (he : e = 103 ∨ e = 105) (hR : ∀ k, 40 < k → pledgeref18_Valid.f k L C N = some e) (T : List Int) (w c : Int) (b : Bool) (n : Int) (k : Nat) (hk : 1300 < k) : pledgelaw21_CertSays.j0 (k + 1 + 1 + 1 + 1 + 1) true false L C N T w c b n = some true := by
 have he0 : e ≠ 0 := by omega
 have hco : (some e : Option Int) = none ∨ ∃ x, (some e : Option Int) = some x ∧ 101 ≤ x ∧ x ≤ 121 := .inr ⟨e, rfl, by omega, by omega⟩
 have hck : cert_Check.f k L C N T w c b n = some (some e) := by
  unfold cert_Check.f; rw [hV, Option.bind_some, if_neg (by simp)]; rfl
 have hl : pledgeref18_Least.f k L C N 0 N = some (0, false) := by
  unfold pledgeref18_Least.f
  rw [hR k (by omega), Option.bind_some, if_neg he0]
  obtain ⟨k1, rfl⟩ : ∃ m, k = m + 1 := ⟨k - 1, by omega⟩
  simp only [pledgeref18_Least.j0]
  rw [if_pos trivial]
 rw [show k + 1 + 1 + 1 + 1 + 1 = (k + 4) + 1 by omega]
 simp only [pledgelaw21_CertSays.j0]
 rw [if_neg (by simp), hR _ (by omega), bad_Worth e he0 _ (hR _ (by omega)) (by omega), bad_Cost e he0 _ (hR _ (by omega)) (by omega), Option.bind_some, Option.bind_some, Option.bind_some, if_neg he0, show k + 4 = k + 1 + 1 + 1 + 1 by omega]
 simp only [pledgelaw21_CertSays.j1]
 rw [if_neg (by simp)]
 simp only [pledgelaw21_CertSays.j2]
 rw [if_neg he0]
 simp only [pledgelaw21_CertSays.j3]
 rw [if_neg (by simp)]
 simp only [pledgelaw21_CertSays.j4]
 unfold cert_Gap.f
 rw [hck]
 simp only [Option.bind_some, Option.isNone_some, Bool.false_eq_true, if_false, Option.getD_some]
 have hi := Is_get (some e) hco
 rw [Option.getD_some] at hi
 rw [hi]
 simp only [Option.bind_some, if_true]
 rw [hl]
 simp only [Option.bind_some, if_true]
 obtain ⟨k, rfl⟩ : ∃ m, k = m + 1 := ⟨k - 1, by omega⟩
 rw [show ((0 : Int) != 0) = false from rfl]
 simp only [pledgelaw21_CertSays.j5]
 rw [if_neg (by simp)]
 have hs : cert_Swap.f k L C N T = some ([], false) := by
  unfold cert_Swap.f; rw [bad_Fits e hV k (by omega) T]; rfl
 rw [hs, Option.bind_some]
 obtain ⟨k, rfl⟩ : ∃ m, k = m + 3 := ⟨k - 3, by omega⟩
 exact law_no L C N T w c b n k (bad_RFits e he0 _ (hR _ (by omega)) (by omega) T)
end Go.Proofs.YteooecifecaikaaDoor.PrCertSays
namespace Go.Proofs.YteooecifecaikaaDoor.Pr
open Go.RowKit Go.Proofs.YteooecifecaikaaDoor.ECertSays Go.Proofs.YteooecifecaikaaDoorW.PrintWords Go.Proofs.YteooecifecaikaaDoorW.PrintLast Go.Proofs.YteooecifecaikaaDoorW.PrintMore Go.Proofs.YteooecifecaikaaDoorW.PrintOpen Go.Proofs.YteooecifecaikaaDoor.PrCertSays
theorem CertSays : pledgelaw21_CertSays.Pure := by
 intro L C N T w c b n _ _ _ _ _ _ _
 obtain ⟨k, hk⟩ : ∃ k : Nat, 1300 < k := ⟨1301, by omega⟩
 refine ⟨k + 1 + 1 + 1 + 1 + 1, ?_⟩
 have hj : pledgelaw21_CertSays.j0 (k + 1 + 1 + 1 + 1 + 1) true true L C N T w c b n = some true := by
  simp only [pledgelaw21_CertSays.j0]; rw [if_pos trivial]
 unfold pledgelaw21_CertSays.f
 rw [first_eq (k + 1 + 1 + 1 + 1 + 1) (by omega), Option.bind_some, if_pos rfl]
 by_cases h1 : (L.length : Int) > 20
 · rw [if_pos h1]; exact hj
 rw [if_neg h1]
 by_cases h2 : (C.length : Int) > 20
 · rw [if_pos h2]; exact hj
 rw [if_neg h2]
 by_cases h3 : (T.length : Int) > 20
 · rw [if_pos h3]; exact hj
 rw [if_neg h3]
 obtain ⟨v, hv, hc, hR⟩ := RValid_eq L C N
 rcases hc with rfl | rfl | rfl
 · exact law_ok hv T w c b n k hk
 · exact law_bad 103 hv (.inl rfl) hR T w c b n k hk
 · exact law_bad 105 hv (.inr rfl) hR T w c b n k hk
end Go.Proofs.YteooecifecaikaaDoor.Pr
