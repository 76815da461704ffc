/- Any whole split by any weights, any part, or why not, is what the chapter says: the pure statement of ShareSays, for all rows. Conditions: none beyond the statement's own. -/
import Derived.Test.YtdmhmncplcokiaaDoorEShareSaysx
import Derived.Test.YtdmhmncplcokiaaDoorOpen
namespace Go.Proofs.YtdmhmncplcokiaaDoor.PrShareSays
open Go.RowKit Go.Proofs.YtdmhmncplcokiaaDoor.EShareSays Go.Proofs.YtdmhmncplcokiaaDoorW.PrintWords Go.Proofs.YtdmhmncplcokiaaDoorW.PrintLast Go.Proofs.YtdmhmncplcokiaaDoorW.PrintMore Go.Proofs.YtdmhmncplcokiaaDoorW.PrintOpen
set_option linter.unusedSimpArgs false
set_option linter.unusedVariables false
theorem w64 (x : Int) (h1 : -9223372036854775808 ≤ x) (h2 : x ≤ 9223372036854775807) : wrap64 x = x := by unfold wrap64; omega
theorem w64s (x : Int) (h1 : -1000000000 ≤ x) (h2 : x ≤ 1000000000) : wrap64 x = x := by unfold wrap64; omega
theorem wu64 (n : Int) : IntKind.u64.wrap n = n % 18446744073709551616 := by simp [IntKind.wrap, IntKind.bits, IntKind.signed]
theorem rd_nat (l : List Int) (i : Nat) : rd l (i : Int) = l.getD i 0 := by unfold rd; rw [Int.toNat_natCast]
theorem rd_mem (l : List Int) (i : Nat) (h : i < l.length) : rd l (i : Int) ∈ l := by
 rw [rd_nat, List.getD_eq_getElem?_getD, List.getElem?_eq_getElem h]; exact List.getElem_mem h
theorem take_snoc_sum (l : List Int) (i : Nat) (h : i < l.length) : (l.take (i + 1)).sum = (l.take i).sum + rd l (i : Int) := by
 rw [List.take_succ_eq_append_getElem h, List.sum_append, rd_nat, List.getD_eq_getElem?_getD, List.getElem?_eq_getElem h]; simp
theorem and32 (x : Int) (h0 : 0 ≤ x) (h1 : x < 18446744073709551616) : Go.bits .and .u64 x 4294967295 = x % 4294967296 := by
 have := bits_mask .u64 64 (by decide) (fun n a b => by rw [wu64]; omega) 32 (by decide) x h0 (by omega)
 simpa using this
theorem pb (x y : Int) (hx : 0 ≤ x) (hx1 : x < 4294967296) (hy : 0 ≤ y) (hy1 : y < 4294967296) : 0 ≤ x * y ∧ x * y ≤ 18446744065119617025 := by
 refine ⟨Int.mul_nonneg hx hy, ?_⟩
 have := Int.mul_le_mul (show x ≤ 4294967295 by omega) (show y ≤ 4294967295 by omega) hy (by omega)
 omega
theorem split32 (a b : Int) : a * b = (a / 4294967296) * (b / 4294967296) * 18446744073709551616 + ((a / 4294967296) * (b % 4294967296) + (a % 4294967296) * (b / 4294967296)) * 4294967296 + (a % 4294967296) * (b % 4294967296) := by
 have h1 : a = (a / 4294967296) * 4294967296 + a % 4294967296 := by omega
 have h2 : b = (b / 4294967296) * 4294967296 + b % 4294967296 := by omega
 generalize a / 4294967296 = a1 at *
 generalize a % 4294967296 = a0 at *
 generalize b / 4294967296 = b1 at *
 generalize b % 4294967296 = b0 at *
 subst h1 h2
 grind
theorem Wide_eq (a b : Int) (ha0 : 0 ≤ a) (ha1 : a < 18446744073709551616) (hb0 : 0 ≤ b) (hb1 : b < 18446744073709551616) :
  fix_Wide.f a b = some (a * b / 18446744073709551616, a * b % 18446744073709551616) := by
 unfold fix_Wide.f
 simp only [wu64, and32 a ha0 ha1, and32 b hb0 hb1]
 have e := split32 a b
 obtain ⟨q1, q2⟩ := pb (a / 4294967296) (b / 4294967296) (by omega) (by omega) (by omega) (by omega)
 obtain ⟨q3, q4⟩ := pb (a / 4294967296) (b % 4294967296) (by omega) (by omega) (by omega) (by omega)
 obtain ⟨q5, q6⟩ := pb (a % 4294967296) (b / 4294967296) (by omega) (by omega) (by omega) (by omega)
 obtain ⟨q7, q8⟩ := pb (a % 4294967296) (b % 4294967296) (by omega) (by omega) (by omega) (by omega)
 generalize a / 4294967296 * (b / 4294967296) = p11 at *
 generalize a / 4294967296 * (b % 4294967296) = p10 at *
 generalize a % 4294967296 * (b / 4294967296) = p01 at *
 generalize a % 4294967296 * (b % 4294967296) = p00 at *
 generalize a * b = p at *
 rw [and32 _ (by omega) (by omega)]
 congr 2
 omega
def lenTab : ByteArray := ⟨#[0, 1, 2, 2, 3, 3, 3, 3, 4, 4, 4, 4, 4, 4, 4, 4, 5, 5, 5, 5, 5, 5, 5, 5, 5, 5, 5, 5, 5, 5, 5, 5, 6, 6, 6, 6, 6, 6, 6, 6, 6, 6, 6, 6, 6, 6, 6, 6, 6, 6, 6, 6, 6, 6, 6, 6, 6, 6, 6, 6, 6, 6, 6, 6, 7, 7, 7, 7, 7, 7, 7, 7, 7, 7, 7, 7, 7, 7, 7, 7, 7, 7, 7, 7, 7, 7, 7, 7, 7, 7, 7, 7, 7, 7, 7, 7, 7, 7, 7, 7, 7, 7, 7, 7, 7, 7, 7, 7, 7, 7, 7, 7, 7, 7, 7, 7, 7, 7, 7, 7, 7, 7, 7, 7, 7, 7, 7, 7, 8, 8, 8, 8, 8, 8, 8, 8, 8, 8, 8, 8, 8, 8, 8, 8, 8, 8, 8, 8, 8, 8, 8, 8, 8, 8, 8, 8, 8, 8, 8, 8, 8, 8, 8, 8, 8, 8, 8, 8, 8, 8, 8, 8, 8, 8, 8, 8, 8, 8, 8, 8, 8, 8, 8, 8, 8, 8, 8, 8, 8, 8, 8, 8, 8, 8, 8, 8, 8, 8, 8, 8, 8, 8, 8, 8, 8, 8, 8, 8, 8, 8, 8, 8, 8, 8, 8, 8, 8, 8, 8, 8, 8, 8, 8, 8, 8, 8, 8, 8, 8, 8, 8, 8, 8, 8, 8, 8, 8, 8, 8, 8, 8, 8, 8, 8, 8, 8, 8, 8, 8, 8, 8, 8, 8, 8, 8, 8]⟩
set_option maxRecDepth 100000 in
theorem lenTab_dec : ∀ j : Fin 256, 0 < (j : Nat) → (bt lenTab (j : Nat) = 1 ∧ 1 ≤ (j : Nat) ∧ (j : Nat) ≤ 1) ∨ (bt lenTab (j : Nat) = 2 ∧ 2 ≤ (j : Nat) ∧ (j : Nat) ≤ 3) ∨ (bt lenTab (j : Nat) = 3 ∧ 4 ≤ (j : Nat) ∧ (j : Nat) ≤ 7) ∨ (bt lenTab (j : Nat) = 4 ∧ 8 ≤ (j : Nat) ∧ (j : Nat) ≤ 15) ∨ (bt lenTab (j : Nat) = 5 ∧ 16 ≤ (j : Nat) ∧ (j : Nat) ≤ 31) ∨ (bt lenTab (j : Nat) = 6 ∧ 32 ≤ (j : Nat) ∧ (j : Nat) ≤ 63) ∨ (bt lenTab (j : Nat) = 7 ∧ 64 ≤ (j : Nat) ∧ (j : Nat) ≤ 127) ∨ (bt lenTab (j : Nat) = 8 ∧ 128 ≤ (j : Nat) ∧ (j : Nat) ≤ 255) := by decide
theorem lenTab_spec (i : Int) (h0 : 0 < i) (h1 : i < 256) : (bt lenTab i = 1 ∧ 1 ≤ i ∧ i ≤ 1) ∨ (bt lenTab i = 2 ∧ 2 ≤ i ∧ i ≤ 3) ∨ (bt lenTab i = 3 ∧ 4 ≤ i ∧ i ≤ 7) ∨ (bt lenTab i = 4 ∧ 8 ≤ i ∧ i ≤ 15) ∨ (bt lenTab i = 5 ∧ 16 ≤ i ∧ i ≤ 31) ∨ (bt lenTab i = 6 ∧ 32 ≤ i ∧ i ≤ 63) ∨ (bt lenTab i = 7 ∧ 64 ≤ i ∧ i ≤ 127) ∨ (bt lenTab i = 8 ∧ 128 ≤ i ∧ i ≤ 255) := by
 obtain ⟨n, rfl⟩ := Int.eq_ofNat_of_zero_le (show 0 ≤ i by omega)
 have := lenTab_dec ⟨n, by omega⟩ (by show 0 < n; omega)
 simp only at this
 omega
theorem wadd (n a t : Int) (n0 : 0 ≤ n) (n1 : n ≤ 32) (a0 : 0 ≤ a) (a1 : a ≤ 24) (t0 : 1 ≤ t) (t1 : t ≤ 8) : wrap64 ((wrap64 (n + a)) + (wrap64 t)) = n + (a + t) := by
 rw [w64 (n + a) (by omega) (by omega), w64 t (by omega) (by omega), w64 _ (by omega) (by omega)]; omega
theorem Len_j0 (k : Nat) (x n : Int) (hx : 0 < x) (hx1 : x < 4294967296) (hn0 : 0 ≤ n) (hn1 : n ≤ 32) :
  ∃ L : Nat, bits_Len64.j0 (k + 1) x n = some (n + L) ∧ 1 ≤ L ∧ L ≤ 32 ∧ (2 : Int) ^ (L - 1) ≤ x ∧ x < (2 : Int) ^ L := by
 have key : ∀ (i a : Int) (b : Nat), 0 < i → i < 256 → a = (b : Int) → b ≤ 24 → x / (2 : Int) ^ b = i →
   ∃ L : Nat, (some (wrap64 ((wrap64 (n + a)) + (wrap64 (bt lenTab i)))) : Option Int) = some (n + L) ∧ 1 ≤ L ∧ L ≤ b + 8 ∧ (2 : Int) ^ (L - 1) ≤ x ∧ x < (2 : Int) ^ L := by
  intro i a b h0 h1 ha hb hi
  have hp : 0 < (2 : Int) ^ b := Int.pow_pos (by decide)
  have e1 : i * (2 : Int) ^ b ≤ x := by rw [← hi]; exact Int.ediv_mul_le _ (by omega)
  have e2 : x < (i + 1) * (2 : Int) ^ b := by rw [← hi]; exact Int.lt_ediv_add_one_mul_self _ hp
  have sp := lenTab_spec i h0 h1
  generalize bt lenTab i = tv at sp ⊢
  have fin : ∀ t : Nat, tv = t → 1 ≤ t → t ≤ 8 → (2 : Int) ^ (t - 1) ≤ i → i + 1 ≤ (2 : Int) ^ t →
    ∃ L : Nat, (some (wrap64 ((wrap64 (n + a)) + (wrap64 tv))) : Option Int) = some (n + L) ∧ 1 ≤ L ∧ L ≤ b + 8 ∧ (2 : Int) ^ (L - 1) ≤ x ∧ x < (2 : Int) ^ L := by
   clear sp
   intro t ht t1 t8 g0 g1
   refine ⟨b + t, ?_, by omega, by omega, ?_, ?_⟩
   ·
    subst ht
    rw [wadd n a t hn0 hn1 (by rw [ha]; exact Int.natCast_nonneg _) (by rw [ha]; exact_mod_cast hb) (by exact_mod_cast t1) (by exact_mod_cast t8), ha]
    rfl
   ·
    rw [show b + t - 1 = (t - 1) + b by omega, Int.pow_add]
    exact Int.le_trans (Int.mul_le_mul_of_nonneg_right g0 (by omega)) e1
   ·
    rw [show b + t = t + b by omega, Int.pow_add]
    exact Int.lt_of_lt_of_le e2 (Int.mul_le_mul_of_nonneg_right g1 (by omega))
  rcases sp with h | h | h | h | h | h | h | h
  · exact fin 1 h.1 (by omega) (by omega) (by simp; omega) (by simp; omega)
  · exact fin 2 h.1 (by omega) (by omega) (by simp; omega) (by simp; omega)
  · exact fin 3 h.1 (by omega) (by omega) (by simp; omega) (by simp; omega)
  · exact fin 4 h.1 (by omega) (by omega) (by simp; omega) (by simp; omega)
  · exact fin 5 h.1 (by omega) (by omega) (by simp; omega) (by simp; omega)
  · exact fin 6 h.1 (by omega) (by omega) (by simp; omega) (by simp; omega)
  · exact fin 7 h.1 (by omega) (by omega) (by simp; omega) (by simp; omega)
  · exact fin 8 h.1 (by omega) (by omega) (by simp; omega) (by simp; omega)
 rw [bits_Len64.j0]
 by_cases c1 : x ≥ 65536
 ·
  rw [if_pos c1]
  by_cases c2 : x / 65536 ≥ 256
  ·
   rw [if_pos c2, if_pos (by omega), if_pos (by omega)]
   obtain ⟨L, e, l1, l2, l3, l4⟩ := key (x / 65536 / 256 % 256) 24 24 (by omega) (by omega) rfl (by omega) (by omega)
   refine ⟨L, ?_, l1, by omega, l3, l4⟩
   rw [← e]
   have : wrap64 (wrap64 (n + 16) + 8) = wrap64 (n + 24) := by unfold wrap64; omega
   rw [this]
   rfl
  ·
   rw [if_neg c2, if_pos (by omega), if_pos (by omega)]
   obtain ⟨L, e, l1, l2, l3, l4⟩ := key (x / 65536 % 256) 16 16 (by omega) (by omega) rfl (by omega) (by omega)
   exact ⟨L, e, l1, by omega, l3, l4⟩
 ·
  rw [if_neg c1]
  by_cases c2 : x ≥ 256
  ·
   rw [if_pos c2, if_pos (by omega), if_pos (by omega)]
   obtain ⟨L, e, l1, l2, l3, l4⟩ := key (x / 256 % 256) 8 8 (by omega) (by omega) rfl (by omega) (by omega)
   exact ⟨L, e, l1, by omega, l3, l4⟩
  ·
   rw [if_neg c2, if_pos (by omega), if_pos (by omega)]
   obtain ⟨L, e, l1, l2, l3, l4⟩ := key (x % 256) 0 0 (by omega) (by omega) rfl (by omega) (by omega)
   refine ⟨L, ?_, l1, by omega, l3, l4⟩
   rw [← e]
   have : n = wrap64 (n + 0) := by unfold wrap64; omega
   rw [← this]
   rfl
theorem Len_eq (k : Nat) (x : Int) (hx : 0 < x) (hx1 : x < 18446744073709551616) :
  ∃ L : Nat, bits_Len64.f (k + 1) x = some (L : Int) ∧ 1 ≤ L ∧ L ≤ 64 ∧ (2 : Int) ^ (L - 1) ≤ x ∧ x < (2 : Int) ^ L := by
 unfold bits_Len64.f
 by_cases c : x ≥ 4294967296
 ·
  rw [if_pos c]
  obtain ⟨L, e, l1, l2, l3, l4⟩ := Len_j0 k (x / 4294967296) 32 (by omega) (by omega) (by omega) (by omega)
  refine ⟨32 + L, by rw [e]; simp, by omega, by omega, ?_, ?_⟩
  ·
   rw [show 32 + L - 1 = (L - 1) + 32 by omega, Int.pow_add]
   have : (2 : Int) ^ (L - 1) * 4294967296 ≤ x / 4294967296 * 4294967296 := Int.mul_le_mul_of_nonneg_right l3 (by omega)
   have h32 : (2 : Int) ^ 32 = 4294967296 := by decide
   rw [h32]; omega
  ·
   rw [show 32 + L = L + 32 by omega, Int.pow_add]
   have : (x / 4294967296 + 1) * 4294967296 ≤ (2 : Int) ^ L * 4294967296 := Int.mul_le_mul_of_nonneg_right (by omega) (by omega)
   have h32 : (2 : Int) ^ 32 = 4294967296 := by decide
   rw [h32]; omega
 ·
  rw [if_neg c]
  obtain ⟨L, e, l1, l2, l3, l4⟩ := Len_j0 k x 0 hx (by omega) (by omega) (by omega)
  exact ⟨L, by rw [e]; simp, l1, by omega, l3, l4⟩
/-- The digit's loops: what a guess q of the quotient of n = U * 2^32 + u by y = a * 2^32 + b tells. -/
structure Guess (U u a b q r : Int) : Prop where
 e : r = U - q * a
 r0 : 0 ≤ r
 r1 : r < 4294967296
 lo : (U * 4294967296 + u) / (a * 4294967296 + b) ≤ q
 hi : q ≤ 4294967297
structure Div32 (U u a b : Int) : Prop where
 a0 : 2147483648 ≤ a
 a1 : a < 4294967296
 b0 : 0 ≤ b
 b1 : b < 4294967296
 u0 : 0 ≤ u
 u1 : u < 4294967296
 U0 : 0 ≤ U
 U1 : U < a * 4294967296 + b
theorem Guess.key {U u a b q r : Int} (g : Guess U u a b q r) : U * 4294967296 + u - q * (a * 4294967296 + b) = r * 4294967296 + u - q * b := by
 rw [g.e]; grind
/-- A guess that passes the test is the digit. -/
theorem Guess.done {U u a b q r : Int} (d : Div32 U u a b) (g : Guess U u a b q r) (h : q * b ≤ r * 4294967296 + u) : q = (U * 4294967296 + u) / (a * 4294967296 + b) := by
 have hk := g.key
 have hy : 0 < a * 4294967296 + b := by have := d.a0; have := d.b0; omega
 have : q ≤ (U * 4294967296 + u) / (a * 4294967296 + b) := (Int.le_ediv_iff_mul_le hy).2 (by omega)
 exact Int.le_antisymm this g.lo
/-- One that fails it is too great. -/
theorem Guess.fails {U u a b q r : Int} (d : Div32 U u a b) (g : Guess U u a b q r) (h : 4294967296 ≤ q ∨ r * 4294967296 + u < q * b) : (U * 4294967296 + u) / (a * 4294967296 + b) ≤ q - 1 := by
 have hk := g.key
 have hy : 0 < a * 4294967296 + b := by have := d.a0; have := d.b0; omega
 have : (U * 4294967296 + u) / (a * 4294967296 + b) < q := by
  rcases h with h | h
  ·
   have h1 : (U * 4294967296 + u) / (a * 4294967296 + b) < 4294967296 := (Int.ediv_lt_iff_lt_mul hy).2 (by have := d.U1; have := d.u1; omega)
   omega
  · exact (Int.ediv_lt_iff_lt_mul hy).2 (by omega)
 omega
/-- The last guess, where what is left would be beyond a digit. -/
theorem Guess.over {U u a b q r : Int} (d : Div32 U u a b) (g : Guess U u a b q r) (h : 4294967296 ≤ q ∨ r * 4294967296 + u < q * b) (hr : 4294967296 ≤ r + a) :
  q - 1 = (U * 4294967296 + u) / (a * 4294967296 + b) := by
 have h1 := g.fails d h
 have hk := g.key
 have hy : 0 < a * 4294967296 + b := by have := d.a0; have := d.b0; omega
 have hb : (q - 1) * b ≤ 18446744073709551616 - 4294967296 := by
  have h2 : q - 1 ≤ 4294967296 := by have := g.hi; omega
  have h3 : (q - 1) * b ≤ 4294967296 * b := Int.mul_le_mul_of_nonneg_right h2 d.b0
  have := d.b1; omega
 have e : (q - 1) * (a * 4294967296 + b) = q * (a * 4294967296 + b) - a * 4294967296 - b := by grind
 have e2 : (q - 1) * b = q * b - b := by grind
 have : q - 1 ≤ (U * 4294967296 + u) / (a * 4294967296 + b) := (Int.le_ediv_iff_mul_le hy).2 (by have := d.u0; omega)
 omega
theorem Guess.next {U u a b q r : Int} (d : Div32 U u a b) (g : Guess U u a b q r) (h : 4294967296 ≤ q ∨ r * 4294967296 + u < q * b) (hr : r + a < 4294967296) : Guess U u a b (q - 1) (r + a) :=
 ⟨by rw [g.e]; grind, by have := g.r0; have := d.a0; omega, hr, g.fails d h, by have := g.hi; omega⟩
theorem Guess.first {U u a b : Int} (d : Div32 U u a b) : Guess U u a b (U / a) (U - U / a * a) := by
 have ha : 0 < a := by have := d.a0; omega
 have h1 : U - U / a * a = U % a := by have := Int.emod_def U a; rw [this]; grind
 have hy : 0 < a * 4294967296 + b := by have := d.a0; have := d.b0; omega
 refine ⟨rfl, by rw [h1]; exact Int.emod_nonneg _ (by omega), by rw [h1]; have := Int.emod_lt_of_pos U ha; have := d.a1; omega, ?_, ?_⟩
 ·
  have h2 : (U * 4294967296 + u) / (a * 4294967296 + b) < U / a + 1 := by
   refine (Int.ediv_lt_iff_lt_mul hy).2 ?_
   have h3 : U < (U / a + 1) * a := Int.lt_ediv_add_one_mul_self U ha
   have h4 : 0 ≤ U / a := Int.ediv_nonneg d.U0 (by omega)
   have h5 : 0 ≤ (U / a + 1) * b := Int.mul_nonneg (by omega) d.b0
   have h6 : (U / a + 1) * (a * 4294967296 + b) = (U / a + 1) * a * 4294967296 + (U / a + 1) * b := by grind
   have := d.u1
   omega
  omega
 ·
  have h2 : U / a < 4294967298 := by
   refine (Int.ediv_lt_iff_lt_mul ha).2 ?_
   have := d.U1; have := d.b1; have := d.a0
   omega
  omega
theorem qb_small {U u a b q r : Int} (d : Div32 U u a b) (g : Guess U u a b q r) (hq : ¬ q ≥ 4294967296) : 0 ≤ q ∧ 0 ≤ q * b ∧ q * b ≤ 18446744065119617025 := by
 have hy : 0 < a * 4294967296 + b := by have := d.a0; have := d.b0; omega
 have h0 : 0 ≤ q := Int.le_trans (Int.ediv_nonneg (by have := d.U0; have := d.u0; omega) (by omega)) g.lo
 exact ⟨h0, pb q b h0 (by omega) d.b0 d.b1⟩
/-- The first digit's loop. -/
theorem l0_digit (y s a b U u un0 : Int) (d : Div32 U u a b) : ∀ (n k : Nat) (q r : Int), (4294967296 - r) ≤ n * a → n * 2 + 2 ≤ k → Guess U u a b q r →
  ∃ k', k - (n * 2 + 2) ≤ k' ∧ bits_Div64.l0 k y s a b U u un0 q r = bits_Div64.j2 k' y s a b U u un0 ((U * 4294967296 + u) / (a * 4294967296 + b)) := by
 intro n
 induction n with
 | zero =>
  intro k q r h1 h2 g
  have := g.r1
  omega
 | succ n ih =>
  intro k q r h1 h2 g
  obtain ⟨k, rfl⟩ : ∃ m, k = m + 1 := ⟨k - 1, by omega⟩
  have hr0 := g.r0
  have hr1 := g.r1
  have hu0 := d.u0
  have hu1 := d.u1
  have ha0 := d.a0
  have ha1 := d.a1
  have hghi := g.hi
  have w1 : IntKind.u64.wrap (IntKind.u64.wrap (4294967296 * r) + u) = r * 4294967296 + u := by rw [wu64, wu64]; omega
  have w2 : IntKind.u64.wrap (r + a) = r + a := by rw [wu64]; omega
  have fail : (4294967296 ≤ q ∨ r * 4294967296 + u < q * b) → 1 ≤ q → ∃ k', k + 1 - ((n + 1) * 2 + 2) ≤ k' ∧ bits_Div64.j1 k y s a b U u un0 q r true = bits_Div64.j2 k' y s a b U u un0 ((U * 4294967296 + u) / (a * 4294967296 + b)) := by
   intro hf hq1
   obtain ⟨k, rfl⟩ : ∃ m, k = m + 1 := ⟨k - 1, by omega⟩
   have w3 : IntKind.u64.wrap (q - 1) = q - 1 := by rw [wu64]; omega
   rw [bits_Div64.j1]
   simp only [if_true]
   rw [w2, w3]
   by_cases ho : r + a ≥ 4294967296
   ·
    rw [if_pos ho, g.over d hf ho]
    exact ⟨k, by omega, rfl⟩
   ·
    rw [if_neg ho]
    have e : ((n + 1 : Nat) : Int) * a = n * a + a := by rw [Int.natCast_add]; grind
    obtain ⟨k', hk', ek⟩ := ih k (q - 1) (r + a) (by omega) (by omega) (g.next d hf (by omega))
    exact ⟨k', by omega, ek⟩
  rw [bits_Div64.l0]
  by_cases hq : q ≥ 4294967296
  ·
   rw [if_pos hq]
   exact fail (.inl hq) (by omega)
  ·
   rw [if_neg hq]
   obtain ⟨q0, qb0, qb1⟩ := qb_small d g hq
   have w4 : IntKind.u64.wrap (q * b) = q * b := by rw [wu64]; omega
   rw [w1, w4]
   by_cases hf : q * b > r * 4294967296 + u
   ·
    rw [decide_eq_true hf]
    refine fail (.inr (by omega)) ?_
    rcases Decidable.em (1 ≤ q) with h | h
    · exact h
    ·
     exfalso
     have : q = 0 := by omega
     subst this
     omega
   ·
    rw [decide_eq_false hf]
    obtain ⟨k, rfl⟩ : ∃ m, k = m + 1 := ⟨k - 1, by omega⟩
    rw [bits_Div64.j1]
    simp only [Bool.false_eq_true, if_false]
    rw [g.done d (by omega)]
    exact ⟨k, by omega, rfl⟩
/-- The second digit's loop, and what is handed back. -/
theorem l1_digit (y s a b U u q1 un21 : Int) (d : Div32 U u a b) (hs : 0 ≤ s) : ∀ (n k : Nat) (q r : Int), (4294967296 - r) ≤ n * a → n * 2 + 2 ≤ k → Guess U u a b q r →
  bits_Div64.l1 k y s a b u q1 r un21 q = some (IntKind.u64.wrap ((IntKind.u64.wrap (q1 * 4294967296)) + (U * 4294967296 + u) / (a * 4294967296 + b)), shr .u64 (IntKind.u64.wrap ((IntKind.u64.wrap ((IntKind.u64.wrap (un21 * 4294967296)) + u)) - (IntKind.u64.wrap ((U * 4294967296 + u) / (a * 4294967296 + b) * y)))) s) := by
 intro n
 induction n with
 | zero =>
  intro k q r h1 h2 g
  have := g.r1
  omega
 | succ n ih =>
  intro k q r h1 h2 g
  obtain ⟨k, rfl⟩ : ∃ m, k = m + 1 := ⟨k - 1, by omega⟩
  have hr0 := g.r0
  have hr1 := g.r1
  have hu0 := d.u0
  have hu1 := d.u1
  have ha0 := d.a0
  have ha1 := d.a1
  have hghi := g.hi
  have w1 : IntKind.u64.wrap (IntKind.u64.wrap (4294967296 * r) + u) = r * 4294967296 + u := by rw [wu64, wu64]; omega
  have w2 : IntKind.u64.wrap (r + a) = r + a := by rw [wu64]; omega
  have fail : (4294967296 ≤ q ∨ r * 4294967296 + u < q * b) → 1 ≤ q → bits_Div64.j4 k y s a b u q1 r un21 q true = some (IntKind.u64.wrap ((IntKind.u64.wrap (q1 * 4294967296)) + (U * 4294967296 + u) / (a * 4294967296 + b)), shr .u64 (IntKind.u64.wrap ((IntKind.u64.wrap ((IntKind.u64.wrap (un21 * 4294967296)) + u)) - (IntKind.u64.wrap ((U * 4294967296 + u) / (a * 4294967296 + b) * y)))) s) := by
   intro hf hq1
   obtain ⟨k, rfl⟩ : ∃ m, k = m + 1 := ⟨k - 1, by omega⟩
   have w3 : IntKind.u64.wrap (q - 1) = q - 1 := by rw [wu64]; omega
   rw [bits_Div64.j4]
   simp only [if_true]
   rw [w2, w3]
   by_cases ho : r + a ≥ 4294967296
   · rw [if_pos ho, if_pos hs, g.over d hf ho]
   ·
    rw [if_neg ho]
    have e : ((n + 1 : Nat) : Int) * a = n * a + a := by rw [Int.natCast_add]; grind
    exact ih k (q - 1) (r + a) (by omega) (by omega) (g.next d hf (by omega))
  rw [bits_Div64.l1]
  by_cases hq : q ≥ 4294967296
  ·
   rw [if_pos hq]
   exact fail (.inl hq) (by omega)
  ·
   rw [if_neg hq]
   obtain ⟨q0, qb0, qb1⟩ := qb_small d g hq
   have w4 : IntKind.u64.wrap (q * b) = q * b := by rw [wu64]; omega
   rw [w1, w4]
   by_cases hf : q * b > r * 4294967296 + u
   ·
    rw [decide_eq_true hf]
    refine fail (.inr (by omega)) ?_
    rcases Decidable.em (1 ≤ q) with h | h
    · exact h
    ·
     exfalso
     have : q = 0 := by omega
     subst this
     omega
   ·
    rw [decide_eq_false hf]
    obtain ⟨k, rfl⟩ : ∃ m, k = m + 1 := ⟨k - 1, by omega⟩
    rw [bits_Div64.j4]
    simp only [Bool.false_eq_true, if_false]
    rw [g.done d (by omega), if_pos hs]
/-- Two digits: the quotient of U * 2^64 + u1 * 2^32 + u0 by y, where y has its highest bit. -/
theorem two_digits (y s a b U u1 u0 : Int) (hy : y = a * 4294967296 + b) (d : Div32 U u1 a b) (h0 : 0 ≤ u0) (h1 : u0 < 4294967296) (hs : 0 ≤ s) (k : Nat) (hk : 20 < k) :
  ∃ Q R, bits_Div64.l0 k y s a b U u1 u0 (U / a) (U - U / a * a) = some (Q, shr .u64 R s) ∧ U * 18446744073709551616 + u1 * 4294967296 + u0 = Q * y + R ∧ 0 ≤ R ∧ R < y ∧ 0 ≤ Q := by
 have ha0 := d.a0
 have ha1 := d.a1
 have hb0 := d.b0
 have hb1 := d.b1
 have hyp : 0 < y := by omega
 have hU0 := d.U0
 have hU1 := d.U1
 have hu0 := d.u0
 have hu1 := d.u1
 have g := Guess.first d
 have gr0 := g.r0
 obtain ⟨k', hk', e⟩ := l0_digit y s a b U u1 u0 d 2 k (U / a) (U - U / a * a) (by omega) (by omega) g
 rw [e]
 obtain ⟨k', rfl⟩ : ∃ m, k' = m + 1 := ⟨k' - 1, by omega⟩
 rw [bits_Div64.j2, if_neg (by omega)]
 have hn : 0 ≤ U * 4294967296 + u1 := by omega
 have q1lt : (U * 4294967296 + u1) / y < 4294967296 := (Int.ediv_lt_iff_lt_mul hyp).2 (by omega)
 have q10 : 0 ≤ (U * 4294967296 + u1) / y := Int.ediv_nonneg hn (by omega)
 have em := Int.emod_def (U * 4294967296 + u1) y
 have er0 : 0 ≤ (U * 4294967296 + u1) % y := Int.emod_nonneg _ (by omega)
 have er1 : (U * 4294967296 + u1) % y < y := Int.emod_lt_of_pos _ hyp
 have ey : y * ((U * 4294967296 + u1) / y) = (U * 4294967296 + u1) / y * y := Int.mul_comm _ _
 rw [ey] at em
 rw [← hy]
 generalize hQ1 : (U * 4294967296 + u1) / y = q1 at *
 generalize hV : (U * 4294967296 + u1) % y = V at *
 have wV : IntKind.u64.wrap ((IntKind.u64.wrap ((IntKind.u64.wrap (U * 4294967296)) + u1)) - (IntKind.u64.wrap (q1 * y))) = V := by
  simp only [wu64]
  generalize q1 * y = p at *
  omega
 rw [wV]
 have hap : 0 < a := by omega
 have va0 : 0 ≤ V / a := Int.ediv_nonneg er0 (by omega)
 have va1 : V / a * a ≤ V := Int.ediv_mul_le _ (by omega)
 have va2 : 0 ≤ V / a * a := Int.mul_nonneg va0 (by omega)
 have va3 : V / a ≤ V := Int.ediv_le_self _ er0
 have wt : IntKind.u64.wrap (Int.tdiv V a) = V / a := by
  rw [wu64, Int.tdiv_eq_ediv_of_nonneg er0]; omega
 rw [wt]
 have wm : IntKind.u64.wrap (V / a * a) = V / a * a := by rw [wu64]; omega
 have wr : IntKind.u64.wrap (V - V / a * a) = V - V / a * a := by rw [wu64]; omega
 rw [wm, wr]
 have d2 : Div32 V u0 a b := ⟨ha0, ha1, hb0, hb1, h0, h1, er0, by omega⟩
 have g2 := Guess.first d2
 have gr2 := g2.r0
 rw [l1_digit y s a b V u0 q1 V d2 hs 2 k' (V / a) (V - V / a * a) (by omega) (by omega) g2, ← hy]
 have n2 : 0 ≤ V * 4294967296 + u0 := by omega
 have q2lt : (V * 4294967296 + u0) / y < 4294967296 := (Int.ediv_lt_iff_lt_mul hyp).2 (by omega)
 have q20 : 0 ≤ (V * 4294967296 + u0) / y := Int.ediv_nonneg n2 (by omega)
 have em2 := Int.emod_def (V * 4294967296 + u0) y
 have fr0 : 0 ≤ (V * 4294967296 + u0) % y := Int.emod_nonneg _ (by omega)
 have fr1 : (V * 4294967296 + u0) % y < y := Int.emod_lt_of_pos _ hyp
 have ey2 : y * ((V * 4294967296 + u0) / y) = (V * 4294967296 + u0) / y * y := Int.mul_comm _ _
 rw [ey2] at em2
 generalize (V * 4294967296 + u0) / y = q2 at *
 generalize (V * 4294967296 + u0) % y = R at *
 have wR : IntKind.u64.wrap ((IntKind.u64.wrap ((IntKind.u64.wrap (V * 4294967296)) + u0)) - (IntKind.u64.wrap (q2 * y))) = R := by
  simp only [wu64]
  generalize q2 * y = p at *
  omega
 have wQ : IntKind.u64.wrap ((IntKind.u64.wrap (q1 * 4294967296)) + q2) = q1 * 4294967296 + q2 := by simp only [wu64]; omega
 rw [wR, wQ]
 refine ⟨_, _, rfl, ?_, fr0, fr1, by omega⟩
 have e3 : (q1 * 4294967296 + q2) * y = q1 * y * 4294967296 + q2 * y := by grind
 rw [e3]
 generalize q2 * y = p2 at *
 generalize q1 * y = p1 at *
 omega
theorem Div64_eq (hi lo y : Int) (h0 : 0 ≤ hi) (h1 : hi < y) (l0 : 0 ≤ lo) (l1 : lo < 18446744073709551616) (y1 : y < 18446744073709551616) (k : Nat) (hk : 30 < k) :
  bits_Div64.f k hi lo y = some ((hi * 18446744073709551616 + lo) / y, (hi * 18446744073709551616 + lo) % y) := by
 unfold bits_Div64.f
 rw [if_neg (by omega), if_neg (by omega)]
 have hy : 0 < y := by omega
 by_cases hz : hi = 0
 ·
  rw [if_pos hz, hz]
  have q0 : 0 ≤ lo / y := Int.ediv_nonneg l0 (by omega)
  have q1 : lo / y ≤ lo := Int.ediv_le_self _ l0
  rw [wu64, Int.tdiv_eq_ediv_of_nonneg l0, Int.tmod_eq_emod_of_nonneg l0]
  have e : (lo / y) % 18446744073709551616 = lo / y := by omega
  rw [e]; simp
 ·
  rw [if_neg hz]
  obtain ⟨k, rfl⟩ : ∃ m, k = m + 1 := ⟨k - 1, by omega⟩
  obtain ⟨L, eL, L1, L64, p1, p2⟩ := Len_eq k y hy y1
  unfold bits_LeadingZeros64.f
  rw [eL]
  simp only [Option.bind_some]
  have ws : IntKind.u64.wrap (wrap64 (64 - (L : Int))) = ((64 - L : Nat) : Int) := by rw [wu64]; unfold wrap64; omega
  have ws2 : IntKind.u64.wrap (64 - ((64 - L : Nat) : Int)) = (L : Int) := by rw [wu64]; omega
  rw [ws, ws2, if_pos (by omega), if_pos (by omega)]
  have esl : ∀ x : Int, shl .u64 x ((64 - L : Nat) : Int) = (x * 2 ^ (64 - L)) % 18446744073709551616 := fun x => by
   unfold shl
   rw [wu64, Int.toNat_natCast, show min (64 - L) IntKind.u64.bits = 64 - L from Nat.min_eq_left (by show 64 - L ≤ 64; omega)]
  have esr : ∀ x : Int, shr .u64 x (L : Int) = x / 2 ^ L := fun x => by
   unfold shr
   rw [Int.toNat_natCast, show min L IntKind.u64.bits = L from Nat.min_eq_left L64]
  have esr2 : ∀ x : Int, shr .u64 x ((64 - L : Nat) : Int) = x / 2 ^ (64 - L) := fun x => by
   unfold shr
   rw [Int.toNat_natCast, show min (64 - L) IntKind.u64.bits = 64 - L from Nat.min_eq_left (by show 64 - L ≤ 64; omega)]
  have hD : (0 : Int) < 2 ^ (64 - L) := Int.pow_pos (by decide)
  have hE : (0 : Int) < 2 ^ L := Int.pow_pos (by decide)
  have hDE : (2 : Int) ^ L * 2 ^ (64 - L) = 18446744073709551616 := by
   rw [← Int.pow_add, show L + (64 - L) = 64 by omega]; decide
  have hDE2 : (2 : Int) ^ (L - 1) * 2 ^ (64 - L) = 9223372036854775808 := by
   rw [← Int.pow_add, show L - 1 + (64 - L) = 63 by omega]; decide
  have hor : ∀ x z : Int, 0 ≤ x → x % 2 ^ (64 - L) = 0 → x < 18446744073709551616 → 0 ≤ z → z < 2 ^ (64 - L) → z < 18446744073709551616 → Go.bits .or .u64 x z = x + z := fun x z a1 a2 a3 a4 a5 a6 =>
   bits_join .u64 64 (by decide) (fun n a b => by rw [wu64]; omega) (64 - L) x z a1 a2 (by omega) a4 a5 (by omega)
  simp only [esl, esr]
  generalize hDd : (2 : Int) ^ (64 - L) = D at *
  generalize hEd : (2 : Int) ^ L = E at *
  generalize (2 : Int) ^ (L - 1) = E2 at *
  have yD1 : y * D < 18446744073709551616 := by
   rw [← hDE]; exact Int.mul_lt_mul_of_pos_right p2 hD
  have yD0 : 9223372036854775808 ≤ y * D := by
   rw [← hDE2]; exact Int.mul_le_mul_of_nonneg_right p1 (by omega)
  have ey : y * D % 18446744073709551616 = y * D := by omega
  rw [ey]
  have hD1 : hi * D ≤ (y - 1) * D := Int.mul_le_mul_of_nonneg_right (by omega) (by omega)
  have hD2 : (y - 1) * D = y * D - D := by grind
  have hD0 : 0 ≤ hi * D := Int.mul_nonneg h0 (by omega)
  have ehi : hi * D % 18446744073709551616 = hi * D := by omega
  rw [ehi]
  have lE0 : 0 ≤ lo / E := Int.ediv_nonneg l0 (by omega)
  have lE1 : lo / E < D := (Int.ediv_lt_iff_lt_mul hE).2 (by rw [Int.mul_comm, hDE]; exact l1)
  have elo : lo * D / 18446744073709551616 = lo / E := by
   rw [← hDE]; exact Int.mul_ediv_mul_of_pos_left lo E hD
  rw [hor (hi * D) (lo / E) hD0 (Int.mul_emod_left _ _) (by omega) lE0 lE1 (by omega), and32 (y * D) (by omega) (by omega), and32 _ (by omega) (by omega)]
  have lD0 : 0 ≤ lo * D := Int.mul_nonneg l0 (by omega)
  rw [if_neg (by omega)]
  have d : Div32 (hi * D + lo / E) (lo * D % 18446744073709551616 / 4294967296) (y * D / 4294967296) (y * D % 4294967296) := ⟨by omega, by omega, by omega, by omega, by omega, by omega, by omega, by omega⟩
  have hap : 0 < y * D / 4294967296 := by omega
  have U0 : 0 ≤ hi * D + lo / E := by omega
  have ua0 : 0 ≤ (hi * D + lo / E) / (y * D / 4294967296) := Int.ediv_nonneg U0 (by omega)
  have ua1 : (hi * D + lo / E) / (y * D / 4294967296) * (y * D / 4294967296) ≤ hi * D + lo / E := Int.ediv_mul_le _ (by omega)
  have ua2 : 0 ≤ (hi * D + lo / E) / (y * D / 4294967296) * (y * D / 4294967296) := Int.mul_nonneg ua0 (by omega)
  have ua3 : (hi * D + lo / E) / (y * D / 4294967296) ≤ hi * D + lo / E := Int.ediv_le_self _ U0
  have wt : IntKind.u64.wrap (Int.tdiv (hi * D + lo / E) (y * D / 4294967296)) = (hi * D + lo / E) / (y * D / 4294967296) := by
   rw [wu64, Int.tdiv_eq_ediv_of_nonneg U0]; omega
  rw [wt]
  have wm : IntKind.u64.wrap ((hi * D + lo / E) / (y * D / 4294967296) * (y * D / 4294967296)) = (hi * D + lo / E) / (y * D / 4294967296) * (y * D / 4294967296) := by rw [wu64]; omega
  have wr : IntKind.u64.wrap (hi * D + lo / E - (hi * D + lo / E) / (y * D / 4294967296) * (y * D / 4294967296)) = hi * D + lo / E - (hi * D + lo / E) / (y * D / 4294967296) * (y * D / 4294967296) := by rw [wu64]; omega
  rw [wm, wr]
  obtain ⟨Q, R, e, eQ, R0, R1, Q0⟩ := two_digits (y * D) ((64 - L : Nat) : Int) (y * D / 4294967296) (y * D % 4294967296) (hi * D + lo / E) (lo * D % 18446744073709551616 / 4294967296) (lo * D % 18446744073709551616 % 4294967296) (by omega) d (by omega) (by omega) (by omega) (k + 1) (by omega)
  rw [e, esr2]
  have hN : (hi * 18446744073709551616 + lo) * D = Q * (y * D) + R := by
   rw [← eQ]
   have e1 : (hi * 18446744073709551616 + lo) * D = hi * D * 18446744073709551616 + lo * D := by grind
   rw [e1]
   generalize hi * D = x at *
   generalize lo * D = z at *
   omega
  have hR : R = (hi * 18446744073709551616 + lo - Q * y) * D := by
   have : (hi * 18446744073709551616 + lo - Q * y) * D = (hi * 18446744073709551616 + lo) * D - Q * (y * D) := by grind
   rw [this, hN]; omega
  generalize hr : hi * 18446744073709551616 + lo - Q * y = r at *
  have r0 : 0 ≤ r := by
   rcases Decidable.em (0 ≤ r) with h | h
   · exact h
   ·
    exfalso
    have : r * D ≤ (-1) * D := Int.mul_le_mul_of_nonneg_right (by omega) (by omega)
    omega
  have r1 : r < y := by
   rcases Decidable.em (r < y) with h | h
   · exact h
   ·
    exfalso
    have : y * D ≤ r * D := Int.mul_le_mul_of_nonneg_right (by omega) (by omega)
    omega
  have eR : R / D = r := by rw [hR]; exact Int.mul_ediv_cancel _ (by omega)
  rw [eR]
  obtain ⟨g1, g2⟩ := (Int.ediv_emod_unique hy).2 (⟨by rw [← hr]; grind, r0, r1⟩ : r + y * Q = hi * 18446744073709551616 + lo ∧ 0 ≤ r ∧ r < y)
  rw [g1, g2]
/-- A product over a number, cut down, or up. -/
def divS (a b c : Int) (up : Bool) : Int := if up = true then -((-(a * b)) / c) else a * b / c
/-- A number of 64 bits with a sign. -/
def In64 (n : Int) : Prop := -9223372036854775808 ≤ n ∧ n ≤ 9223372036854775807
instance (n : Int) : Decidable (In64 n) := by unfold In64; infer_instance
theorem size_eq (a : Int) (h : In64 a) : fix_size.f a = some (if a < 0 then -a else a, decide (a < 0)) := by
 obtain ⟨h0, h1⟩ := h
 unfold fix_size.f
 by_cases hn : a < 0
 ·
  rw [if_pos hn, if_pos hn, decide_eq_true hn, wu64, wu64]
  have : -(a % 18446744073709551616) % 18446744073709551616 = -a := by omega
  rw [this]
 ·
  rw [if_neg hn, if_neg hn, decide_eq_false hn, wu64]
  have : a % 18446744073709551616 = a := by omega
  rw [this]
theorem signed_eq (n : Int) (below : Bool) (h0 : 0 ≤ n) (h1 : n < 18446744073709551616) (k : Nat) :
  fix_signed.f (k + 1) n below = some (if In64 (if below = true then -n else n) then (if below = true then -n else n, true) else (0, false)) := by
 unfold fix_signed.f
 cases below with
 | true =>
  simp only [if_true]
  rw [fix_signed.j0]
  by_cases h : n ≤ 9223372036854775808
  ·
   rw [decide_eq_true h, if_pos rfl, if_pos (by unfold In64; omega)]
   have : wrap64 (-(wrap64 n)) = -n := by unfold wrap64; omega
   rw [this]
  ·
   rw [decide_eq_false h]
   simp only [Bool.false_eq_true, if_false, if_true]
   rw [if_neg (by unfold In64; omega)]
 | false =>
  simp only [Bool.false_eq_true, if_false]
  rw [fix_signed.j0]
  simp only [Bool.false_eq_true, if_false]
  by_cases h : n < 9223372036854775808
  ·
   rw [if_pos h, if_pos (by unfold In64; omega)]
   have : wrap64 n = n := by unfold wrap64; omega
   rw [this]
  · rw [if_neg h, if_neg (by unfold In64; omega)]
theorem or_ne (x y : Int) (x0 : 0 ≤ x) (x1 : x < 18446744073709551616) (y0 : 0 ≤ y) (y1 : y < 18446744073709551616) : (Go.bits .or .u64 x y != 0) = decide (x ≠ 0 ∨ y ≠ 0) := by
 obtain ⟨a, rfl⟩ := Int.eq_ofNat_of_zero_le x0
 obtain ⟨b, rfl⟩ := Int.eq_ofNat_of_zero_le y0
 rw [(bits_nat .u64 64 (by decide) (fun n a b => by rw [wu64]; omega) a b (by omega) (by omega)).2]
 rw [Bool.eq_iff_iff]
 simp only [bne_iff_ne, ne_eq, decide_eq_true_eq]
 have := @Nat.or_eq_zero_iff a b
 omega
theorem neg_div (A c : Int) (hc : 0 < c) : (-A) / c = -(A / c) - (if A % c > 0 then 1 else 0) := by
 have e := Int.emod_add_mul_ediv A c
 have m0 := Int.emod_nonneg A (show c ≠ 0 by omega)
 have m1 := Int.emod_lt_of_pos A hc
 generalize hq : A / c = q at *
 generalize hr : A % c = r at *
 by_cases h : r > 0
 ·
  rw [if_pos h]
  have e2 : c * (-q - 1) = -(c * q) - c := by grind
  exact ((Int.ediv_emod_unique hc).2 (⟨by rw [e2]; omega, by omega, by omega⟩ : (c - r) + c * (-q - 1) = -A ∧ 0 ≤ c - r ∧ c - r < c)).1
 ·
  rw [if_neg h]
  have e2 : c * (-q - 0) = -(c * q) := by grind
  exact ((Int.ediv_emod_unique hc).2 (⟨by rw [e2]; omega, by omega, by omega⟩ : 0 + c * (-q - 0) = -A ∧ (0 : Int) ≤ 0 ∧ (0 : Int) < c)).1
theorem abs_mul (a b : Int) : (if a < 0 then -a else a) * (if b < 0 then -b else b) = if (a < 0) ≠ (b < 0) then -(a * b) else a * b := by
 by_cases h1 : a < 0 <;> by_cases h2 : b < 0 <;> simp [h1, h2] <;> grind
theorem Div_eq (a b c : Int) (up : Bool) (ha : In64 a) (hb : In64 b) (hc : 0 < c) (hc1 : c ≤ 9223372036854775807) (k : Nat) (hk : 40 < k) :
  fix_Div.f k a b c up = some (if In64 (divS a b c up) then (divS a b c up, true) else (0, false)) := by
 unfold fix_Div.f
 rw [if_neg (by omega), size_eq a ha, size_eq b hb]
 simp only [Option.bind_some]
 have hx0 : 0 ≤ (if a < 0 then -a else a) ∧ (if a < 0 then -a else a) ≤ 9223372036854775808 := by unfold In64 at ha; split <;> omega
 have hy0 : 0 ≤ (if b < 0 then -b else b) ∧ (if b < 0 then -b else b) ≤ 9223372036854775808 := by unfold In64 at hb; split <;> omega
 have hab := abs_mul a b
 generalize hx : (if a < 0 then -a else a) = x at *
 generalize hy : (if b < 0 then -b else b) = y at *
 rw [Wide_eq x y hx0.1 (by omega) hy0.1 (by omega)]
 simp only [Option.bind_some]
 have wc : IntKind.u64.wrap c = c := by rw [wu64]; omega
 rw [wc]
 have A0 : 0 ≤ x * y := Int.mul_nonneg hx0.1 hy0.1
 have A1 : x * y ≤ 9223372036854775808 * 9223372036854775808 := Int.mul_le_mul hx0.2 hy0.2 hy0.1 (by omega)
 have hbe : (decide (a < 0) != decide (b < 0)) = decide ((a < 0) ≠ (b < 0)) := by
  by_cases h1 : a < 0 <;> by_cases h2 : b < 0 <;> simp [h1, h2]
 have hP : a * b = if ((a < 0) ≠ (b < 0)) then -(x * y) else x * y := by
  rw [hab]; split <;> omega
 generalize hA : x * y = A at *
 have hq : A / c * c ≤ A := Int.ediv_mul_le _ (by omega)
 have hr0 : 0 ≤ A % c := Int.emod_nonneg _ (by omega)
 have hq0 : 0 ≤ A / c := Int.ediv_nonneg A0 (by omega)
 have hS : divS a b c up = (if ((a < 0) ≠ (b < 0)) then -(A / c + (if A % c > 0 ∧ up = false then 1 else 0)) else (A / c + (if A % c > 0 ∧ up = true then 1 else 0))) := by
  have hn := neg_div A c hc
  unfold divS
  rw [hP]
  cases up <;> by_cases h : ((a < 0) ≠ (b < 0)) <;> simp only [if_pos h, if_neg h, Bool.false_eq_true, if_false, if_true, and_true, and_false, Int.neg_neg, reduceCtorEq]
  · rw [hn]; split <;> omega
  · omega
  · omega
  · rw [hn]; split <;> omega
 by_cases hbig : A / 18446744073709551616 ≥ c
 ·
  rw [if_pos hbig]
  have h2 : 18446744073709551616 ≤ A / c := (Int.le_ediv_iff_mul_le hc).2 (by omega)
  have hno : ¬ In64 (divS a b c up) := by
   rw [hS]; unfold In64
   split <;> split <;> omega
  rw [if_neg hno]
 ·
  rw [if_neg hbig]
  have em : A / 18446744073709551616 * 18446744073709551616 + A % 18446744073709551616 = A := by omega
  rw [Div64_eq _ _ c (by omega) (by omega) (by omega) (by omega) (by omega) k (by omega), em]
  simp only [Option.bind_some]
  have hq1 : A / c < 18446744073709551616 := (Int.ediv_lt_iff_lt_mul hc).2 (by omega)
  have hj : ∀ below : Bool, (below = true → ((a < 0) ≠ (b < 0))) → (below = false → ¬ ((a < 0) ≠ (b < 0)) ∨ A = 0) →
    fix_Div.j0 k up (A / c) (A % c) below = some (if In64 (divS a b c up) then (divS a b c up, true) else (0, false)) := by
   intro below hb1 hb2
   have hval : divS a b c up = if below = true then -(A / c + (if A % c > 0 ∧ up ≠ below then 1 else 0)) else (A / c + (if A % c > 0 ∧ up ≠ below then 1 else 0)) := by
    rw [hS]
    cases below with
    | true => rw [if_pos (hb1 rfl), if_pos rfl]; cases up <;> simp
    | false =>
     rcases hb2 rfl with h | h
     · simp only [if_neg h, Bool.false_eq_true, if_false]; cases up <;> simp
     ·
      subst h
      simp
   obtain ⟨k, rfl⟩ : ∃ m, k = m + 1 := ⟨k - 1, by omega⟩
   rw [fix_Div.j0]
   obtain ⟨k, rfl⟩ : ∃ m, k = m + 1 := ⟨k - 1, by omega⟩
   have plain : ¬ (A % c > 0 ∧ up ≠ below) → fix_Div.j1 (k + 1) (A / c) below false = some (if In64 (divS a b c up) then (divS a b c up, true) else (0, false)) := by
    intro hn
    rw [fix_Div.j1]
    simp only [Bool.false_eq_true, if_false]
    obtain ⟨k, rfl⟩ : ∃ m, k = m + 1 := ⟨k - 1, by omega⟩
    rw [signed_eq _ below hq0 hq1, hval, if_neg hn, Int.add_zero]
    rfl
   by_cases hr : A % c > 0
   ·
    rw [if_pos hr]
    by_cases hu : up = below
    ·
     have : (up != below) = false := by rw [hu]; simp
     rw [this]; exact plain (fun h => h.2 hu)
    ·
     have : (up != below) = true := by simpa using hu
     rw [this, fix_Div.j1]
     simp only [if_true]
     have hval2 : divS a b c up = if below = true then -(A / c + 1) else (A / c + 1) := by rw [hval]; simp only [if_pos (show A % c > 0 ∧ up ≠ below from ⟨hr, hu⟩)]
     by_cases ho : A / c + 1 = 18446744073709551616
     ·
      have w0 : IntKind.u64.wrap (A / c + 1) = 0 := by rw [wu64, ho]; decide
      rw [w0, if_pos rfl, if_neg (by rw [hval2]; unfold In64; split <;> omega)]
     ·
      have w0 : IntKind.u64.wrap (A / c + 1) = A / c + 1 := by rw [wu64]; omega
      rw [w0, if_neg (by omega)]
      obtain ⟨k, rfl⟩ : ∃ m, k = m + 1 := ⟨k - 1, by omega⟩
      rw [signed_eq _ below (by omega) (by omega), hval2]
      rfl
   · rw [if_neg hr]; exact plain (fun h => hr h.1)
  rw [hbe]
  by_cases hne : ((a < 0) ≠ (b < 0))
  ·
   rw [decide_eq_true hne]
   simp only [if_true]
   rw [or_ne _ _ (by omega) (by omega) (by omega) (by omega)]
   refine hj _ (fun _ => hne) (fun h => .inr ?_)
   have := of_decide_eq_false h
   omega
  ·
   rw [decide_eq_false hne]
   simp only [Bool.false_eq_true, if_false]
   exact hj false (fun h => by simp at h) (fun _ => .inl hne)
theorem step_div (M c b : Nat) (hc : 0 < c) (hb : b < 2) (hr : 2 * (M % c) + b < c) : (2 * M + b) / c = 2 * (M / c) ∧ (2 * M + b) % c = 2 * (M % c) + b := by
 have e : 2 * M + b = c * (2 * (M / c)) + (2 * (M % c) + b) := by have := Nat.div_add_mod M c; grind
 rw [e, Nat.mul_add_div hc, Nat.mul_add_mod, Nat.div_eq_of_lt hr, Nat.mod_eq_of_lt hr]
 exact ⟨rfl, rfl⟩
theorem step_div1 (M c b : Nat) (hc : 0 < c) (hb : b < 2) (hr : c ≤ 2 * (M % c) + b) : (2 * M + b) / c = 2 * (M / c) + 1 ∧ (2 * M + b) % c = 2 * (M % c) + b - c := by
 have hm := Nat.mod_lt M hc
 have e : 2 * M + b = c * (2 * (M / c) + 1) + (2 * (M % c) + b - c) := by have := Nat.div_add_mod M c; grind
 have h2 : 2 * (M % c) + b - c < c := by omega
 rw [e, Nat.mul_add_div hc, Nat.mul_add_mod, Nat.div_eq_of_lt h2, Nat.mod_eq_of_lt h2]
 exact ⟨rfl, rfl⟩
theorem half_div (N n : Nat) : N / 2 ^ n = 2 * (N / 2 ^ (n + 1)) + N / 2 ^ n % 2 := by
 have : N / 2 ^ (n + 1) = N / 2 ^ n / 2 := by rw [Nat.pow_succ, Nat.div_div_eq_div_mul]
 rw [this]; omega
theorem bit_hi (N i : Nat) : N / 2 ^ 64 / 2 ^ i % 2 = N / 2 ^ (64 + i) % 2 := by rw [Nat.div_div_eq_div_mul, ← Nat.pow_add]
theorem bit_lo (N i : Nat) (h : i < 64) : N % 2 ^ 64 / 2 ^ i % 2 = N / 2 ^ i % 2 := by
 rw [← Nat.toNat_testBit, ← Nat.toNat_testBit, Nat.testBit_mod_two_pow, decide_eq_true h, Bool.true_and]
theorem wu64n (n : Nat) (h : n < 2 ^ 64) : IntKind.u64.wrap (n : Int) = (n : Int) := by
 rw [wu64]
 have : n < 18446744073709551616 := h
 omega
theorem u64_nat (a b : Nat) (ha : a < 2 ^ 64) (hb : b < 2 ^ 64) : Go.bits .and .u64 a b = ((a &&& b : Nat) : Int) ∧ Go.bits .or .u64 a b = ((a ||| b : Nat) : Int) :=
 bits_nat .u64 64 (by decide) (fun n a b => by rw [wu64]; omega) a b ha hb
theorem shr_nat (x i : Nat) (hi : i < 64) : shr .u64 (x : Int) (i : Int) = ((x / 2 ^ i : Nat) : Int) := by
 unfold shr
 rw [Int.toNat_natCast, Nat.min_eq_left (show i ≤ IntKind.u64.bits by simp [IntKind.bits]; omega)]
 simp
theorem shl_one (i : Nat) (hi : i < 64) : shl .u64 1 (i : Int) = ((2 ^ i : Nat) : Int) := by
 unfold shl
 rw [Int.toNat_natCast, Nat.min_eq_left (show i ≤ IntKind.u64.bits by simp [IntKind.bits]; omega), Int.one_mul]
 have h : (2 : Nat) ^ i < 2 ^ 64 := Nat.pow_lt_pow_right (by omega) hi
 have := wu64n (2 ^ i) h
 rw [← this]
 simp
theorem and_one (x : Nat) (h : x < 2 ^ 64) : Go.bits .and .u64 (x : Int) 1 = ((x % 2 : Nat) : Int) := by
 have := (u64_nat x 1 h (by decide)).1
 rw [show ((1 : Nat) : Int) = 1 from rfl] at this
 rw [this, Nat.and_one_is_mod]
theorem or_bit (r b : Nat) (hr : r < 2 ^ 63) (hb : b < 2) : Go.bits .or .u64 (IntKind.u64.wrap ((r : Int) * 2)) (b : Int) = ((2 * r + b : Nat) : Int) := by
 have e : (r : Int) * 2 = ((2 * r : Nat) : Int) := by omega
 have h1 : 2 * r < 2 ^ 64 := by omega
 rw [e, wu64n _ h1, (u64_nat (2 * r) b h1 (by omega)).2]
 have := Nat.two_pow_add_eq_or_of_lt (i := 1) (b := b) (by omega) r
 rw [Nat.pow_one] at this
 rw [← this]
theorem or_pow (Q i : Nat) (h : Q * 2 ^ (i + 1) < 2 ^ 64) (hi : i < 64) : Go.bits .or .u64 ((Q * 2 ^ (i + 1) : Nat) : Int) ((2 ^ i : Nat) : Int) = (((2 * Q + 1) * 2 ^ i : Nat) : Int) := by
 have h2 : (2 : Nat) ^ i < 2 ^ 64 := Nat.pow_lt_pow_right (by omega) hi
 rw [(u64_nat _ _ h h2).2]
 have := Nat.two_pow_add_eq_or_of_lt (i := i + 1) (b := 2 ^ i) (Nat.pow_lt_pow_right (by omega) (by omega)) Q
 rw [Nat.mul_comm Q, ← this, Nat.pow_succ]
 congr 1
 grind
theorem q_bd (N c n : Nat) (h : N / 2 ^ 64 / c = 0) : N / 2 ^ n / c * 2 ^ n < 2 ^ 64 := by
 have h1 : N / c < 2 ^ 64 := by
  rw [Nat.div_div_eq_div_mul, Nat.mul_comm, ← Nat.div_div_eq_div_mul] at h
  rcases Nat.div_eq_zero_iff.1 h with h | h
  · exact absurd h (by decide)
  · exact h
 have h2 : N / 2 ^ n / c = N / c / 2 ^ n := by rw [Nat.div_div_eq_div_mul, Nat.mul_comm, ← Nat.div_div_eq_div_mul]
 rw [h2]
 exact Nat.lt_of_le_of_lt (Nat.div_mul_le_self _ _) h1
theorem i_and63 (i : Nat) (h : i < 64) : IntKind.u64.wrap (Go.bits .and .i64 (i : Int) 63) = (i : Int) := by
 have := bits_mask .i64 63 (by decide) (fun n a b => by rw [IntKind.wrap_i64]; omega) 6 (by decide) (i : Int) (by omega) (by omega)
 have e : Go.bits .and .i64 (i : Int) 63 = (i : Int) % 64 := by simpa using this
 rw [e, wu64]; omega
theorem over_bit (N c : Nat) (i : Nat) (hN : N < 2 ^ 128) (hi : i < 128) (k : Nat) (x9 x10 : Int) (x11 : Bool) :
  pledgeref1_over.l0 (k + 1) ((N / 2 ^ 64 : Nat) : Int) ((N % 2 ^ 64 : Nat) : Int) (c : Int) x9 x10 x11 (i : Int) =
  pledgeref1_over.j1 k ((N / 2 ^ 64 : Nat) : Int) ((N % 2 ^ 64 : Nat) : Int) (c : Int) x9 x10 x11 (i : Int) (x10 / 9223372036854775808) ((N / 2 ^ i % 2 : Nat) : Int) := by
 simp only [pledgeref1_over.l0]
 have hH : N / 2 ^ 64 < 2 ^ 64 := by rw [Nat.div_lt_iff_lt_mul (by decide), ← Nat.pow_add]; exact hN
 have hL : N % 2 ^ 64 < 2 ^ 64 := Nat.mod_lt _ (by decide)
 rw [if_pos (by omega)]
 have h0 : 0 ≤ IntKind.u64.wrap (Go.bits .and .i64 (i : Int) 63) := by rw [wu64]; omega
 rw [if_pos h0]
 by_cases h : 64 ≤ i
 ·
  have e1 : wrap64 ((i : Int) - 64) = ((i - 64 : Nat) : Int) := by rw [w64s _ (by omega) (by omega)]; omega
  have e2 : IntKind.u64.wrap ((i - 64 : Nat) : Int) = ((i - 64 : Nat) : Int) := by rw [wu64]; omega
  rw [if_pos (by omega), e1, e2, if_pos (by omega), shr_nat _ _ (by omega), and_one _ (Nat.lt_of_le_of_lt (Nat.div_le_self _ _) hH), bit_hi, show 64 + (i - 64) = i by omega]
 · rw [if_neg (by omega), i_and63 i (by omega), shr_nat _ _ (by omega), and_one _ (Nat.lt_of_le_of_lt (Nat.div_le_self _ _) hL), bit_lo _ _ (by omega)]
theorem over_all (N c : Nat) (hN : N < 2 ^ 128) (hc : 0 < c) (hc2 : c < 2 ^ 63) : ∀ (n : Nat), n ≤ 128 → ∀ (k : Nat) (q : Int) (fits : Bool), 3 * n + 3 < k →
  (fits = true ↔ N / 2 ^ (max n 64) / c = 0) → (fits = true → q = ((N / 2 ^ n / c * 2 ^ n : Nat) : Int)) →
  ∃ q' : Int, pledgeref1_over.l0 k ((N / 2 ^ 64 : Nat) : Int) ((N % 2 ^ 64 : Nat) : Int) (c : Int) q ((N / 2 ^ n % c : Nat) : Int) fits ((n : Int) - 1) = some (q', ((N % c : Nat) : Int), decide (N / 2 ^ 64 / c = 0)) ∧
   (N / 2 ^ 64 / c = 0 → q' = ((N / c : Nat) : Int)) := by
 intro n
 induction n with
 | zero =>
  intro _ k q fits hk hf hq
  obtain ⟨k, rfl⟩ : ∃ m, k = m + 1 := ⟨k - 1, by omega⟩
  simp only [pledgeref1_over.l0]
  rw [if_neg (by omega)]
  have e : N / 2 ^ 0 = N := by simp
  have em : max 0 64 = 64 := rfl
  rw [em] at hf
  rw [e] at hq ⊢
  refine ⟨q, ?_, fun h => ?_⟩
  ·
   have : fits = decide (N / 2 ^ 64 / c = 0) := by rw [Bool.eq_iff_iff, decide_eq_true_eq]; exact hf
   rw [this]
  · rw [hq (hf.2 h)]; simp
 | succ i ih =>
  intro hn k q fits hk hf hq
  have hn' : i < 128 := by omega
  obtain ⟨k, rfl⟩ : ∃ m, k = m + 1 := ⟨k - 1, by omega⟩
  obtain ⟨k1, hk1⟩ : ∃ m, k = m + 1 := ⟨k - 1, by omega⟩
  obtain ⟨k2, hk2⟩ : ∃ m, k1 = m + 1 := ⟨k1 - 1, by omega⟩
  have e1 : ((i + 1 : Nat) : Int) - 1 = (i : Int) := by omega
  have hr := Nat.mod_lt (N / 2 ^ (i + 1)) hc
  have hb : N / 2 ^ i % 2 < 2 := Nat.mod_lt _ (by omega)
  have hM := half_div N i
  have hih := ih (by omega) k2
  rw [e1, over_bit N c i hN hn' k]
  have ht : ((N / 2 ^ (i + 1) % c : Nat) : Int) / 9223372036854775808 = 0 := by
   have : N / 2 ^ (i + 1) % c < 9223372036854775808 := Nat.lt_trans hr hc2
   omega
  have ho := or_bit (N / 2 ^ (i + 1) % c) (N / 2 ^ i % 2) (Nat.lt_trans hr hc2) hb
  have hk' : 3 * i + 3 < k2 := by omega
  rw [ht, hk1]
  simp only [pledgeref1_over.j1]
  rw [if_neg (by omega), ho, hk2]
  simp only [pledgeref1_over.j2]
  have ew : wrap64 ((i : Int) - 1) = (i : Int) - 1 := w64s _ (by omega) (by omega)
  rw [ew]
  clear hk hk1 hk2
  by_cases h : c ≤ 2 * (N / 2 ^ (i + 1) % c) + N / 2 ^ i % 2
  ·
   obtain ⟨d1, d2⟩ := step_div1 (N / 2 ^ (i + 1)) c (N / 2 ^ i % 2) hc hb h
   rw [← hM] at d1 d2
   rw [decide_eq_true (show ((2 * (N / 2 ^ (i + 1) % c) + N / 2 ^ i % 2 : Nat) : Int) ≥ (c : Int) by omega)]
   simp only [if_true]
   have er : IntKind.u64.wrap (((2 * (N / 2 ^ (i + 1) % c) + N / 2 ^ i % 2 : Nat) : Int) - (c : Int)) = ((N / 2 ^ i % c : Nat) : Int) := by
    have hc3 : c < 9223372036854775808 := hc2
    rw [wu64, d2]; omega
   rw [er]
   by_cases h64 : 64 ≤ i
   ·
    rw [if_pos (by omega)]
    refine hih q false hk' ⟨fun x => by simp at x, fun x => ?_⟩ (fun x => by simp at x)
    rw [Nat.max_eq_left h64, d1] at x
    omega
   ·
    have ewi : IntKind.u64.wrap (i : Int) = (i : Int) := by rw [wu64]; omega
    rw [if_neg (by omega), ewi, if_pos (by omega), shl_one i (by omega)]
    have m1 : max i 64 = 64 := Nat.max_eq_right (by omega)
    have m2 : max (i + 1) 64 = 64 := Nat.max_eq_right (by omega)
    rw [m2] at hf
    refine hih _ fits hk' (by rw [m1]; exact hf) (fun x => ?_)
    rw [hq x, or_pow _ _ (q_bd N c (i + 1) (hf.1 x)) (by omega), d1]
  ·
   obtain ⟨d1, d2⟩ := step_div (N / 2 ^ (i + 1)) c (N / 2 ^ i % 2) hc hb (by omega)
   rw [← hM] at d1 d2
   rw [decide_eq_false (show ¬ ((2 * (N / 2 ^ (i + 1) % c) + N / 2 ^ i % 2 : Nat) : Int) ≥ (c : Int) by omega)]
   simp only [Bool.false_eq_true, if_false]
   rw [← d2]
   refine hih q fits hk' ?_ (fun x => ?_)
   ·
    by_cases h64 : 64 ≤ i
    ·
     rw [Nat.max_eq_left (show 64 ≤ i + 1 by omega)] at hf
     rw [Nat.max_eq_left h64, d1, hf]
     omega
    ·
     rw [Nat.max_eq_right (show i + 1 ≤ 64 by omega)] at hf
     rw [Nat.max_eq_right (show i ≤ 64 by omega)]; exact hf
   ·
    rw [hq x, d1, Nat.pow_succ]
    congr 1
    grind
theorem over_eq_ref (N c : Nat) (hN : N < 2 ^ 128) (hc : 0 < c) (hc2 : c < 2 ^ 63) (k : Nat) (hk : 400 < k) :
  ∃ q' : Int, pledgeref1_over.f k ((N / 2 ^ 64 : Nat) : Int) ((N % 2 ^ 64 : Nat) : Int) (c : Int) = some (q', ((N % c : Nat) : Int), decide (N / 2 ^ 64 / c = 0)) ∧ (N / 2 ^ 64 / c = 0 → q' = ((N / c : Nat) : Int)) := by
 have e : N / 2 ^ 128 = 0 := Nat.div_eq_of_lt hN
 have h := over_all N c hN hc hc2 128 (by omega) k 0 true (by omega) (by rw [show max 128 64 = 128 from rfl, e]; simp) (fun _ => by rw [e]; simp)
 rw [e, Nat.zero_mod] at h
 exact h
theorem or32 (x y : Int) (hx : 0 ≤ x) (hx1 : x < 4294967296) (hy : 0 ≤ y) (hy1 : y < 4294967296) : Go.bits .or .u64 (x * 4294967296) y = x * 4294967296 + y := by
 obtain ⟨a, rfl⟩ := Int.eq_ofNat_of_zero_le hx
 obtain ⟨b, rfl⟩ := Int.eq_ofNat_of_zero_le hy
 have e : (a : Int) * 4294967296 = ((2 ^ 32 * a : Nat) : Int) := by omega
 have hb : b < 2 ^ 32 := by omega
 rw [e, (u64_nat (2 ^ 32 * a) b (by omega) (by omega)).2, ← Nat.two_pow_add_eq_or_of_lt hb a]
 omega
theorem RWide_eq (a b : Int) (ha0 : 0 ≤ a) (ha1 : a < 18446744073709551616) (hb0 : 0 ≤ b) (hb1 : b < 18446744073709551616) :
  pledgeref1_Wide.f a b = some (a * b / 18446744073709551616, a * b % 18446744073709551616) := by
 unfold pledgeref1_Wide.f
 simp only [wu64, and32 a ha0 ha1, and32 b hb0 hb1]
 have e := split32 a b
 obtain ⟨q1, q2⟩ := pb (a / 4294967296) (b / 4294967296) (by omega) (by omega) (by omega) (by omega)
 obtain ⟨q3, q4⟩ := pb (a / 4294967296) (b % 4294967296) (by omega) (by omega) (by omega) (by omega)
 obtain ⟨q5, q6⟩ := pb (a % 4294967296) (b / 4294967296) (by omega) (by omega) (by omega) (by omega)
 obtain ⟨q7, q8⟩ := pb (a % 4294967296) (b % 4294967296) (by omega) (by omega) (by omega) (by omega)
 generalize a / 4294967296 * (b / 4294967296) = p11 at *
 generalize a / 4294967296 * (b % 4294967296) = p10 at *
 generalize a % 4294967296 * (b / 4294967296) = p01 at *
 generalize a % 4294967296 * (b % 4294967296) = p00 at *
 generalize a * b = p at *
 clear ha0 ha1 hb0 hb1
 rw [Int.emod_eq_of_lt q7 (show p00 < 18446744073709551616 by omega), and32 p00 (by omega) (by omega)]
 rw [Int.emod_eq_of_lt (show 0 ≤ p10 by omega) (show p10 < 18446744073709551616 by omega)]
 rw [Int.emod_eq_of_lt (show 0 ≤ p10 + p00 / 4294967296 by omega) (show p10 + p00 / 4294967296 < 18446744073709551616 by omega)]
 rw [and32 (p10 + p00 / 4294967296) (by omega) (by omega)]
 rw [Int.emod_eq_of_lt (show 0 ≤ p01 by omega) (show p01 < 18446744073709551616 by omega)]
 generalize hm : p10 + p00 / 4294967296 = m at *
 rw [Int.emod_eq_of_lt (show 0 ≤ p01 + m % 4294967296 by omega) (show p01 + m % 4294967296 < 18446744073709551616 by omega)]
 generalize hn : p01 + m % 4294967296 = n at *
 have en : n * 4294967296 % 18446744073709551616 = n % 4294967296 * 4294967296 := by omega
 rw [en, or32 _ _ (by omega) (by omega) (by omega) (by omega)]
 congr 2
 · omega
 · omega
theorem Rsize_eq (a : Int) (h : In64 a) : pledgeref1_size.f a = some (if a < 0 then -a else a) := by
 obtain ⟨h0, h1⟩ := h
 unfold pledgeref1_size.f
 by_cases hn : a < 0
 ·
  rw [if_pos hn, if_pos hn, w64 (a + 1) (by omega) (by omega), w64 _ (by omega) (by omega), wu64, wu64]
  congr 1; omega
 ·
  rw [if_neg hn, if_neg hn, wu64]
  congr 1; omega
theorem Rsigned_eq (neg : Bool) (n : Int) (h0 : 0 ≤ n) (h1 : n < 18446744073709551616) :
  pledgeref1_signed.f neg n = some (if In64 (if neg = true then -n else n) then (if neg = true then -n else n, true) else (0, false)) := by
 unfold pledgeref1_signed.f
 cases neg with
 | true =>
  simp only [if_true]
  by_cases h : n > 9223372036854775808
  ·
   have : ¬ In64 (-n) := by unfold In64; omega
   rw [if_pos h, if_neg this]
  ·
   have : In64 (-n) := by unfold In64; omega
   rw [if_neg h, if_pos this]
   by_cases hz : n = 0
   · subst hz; rfl
   ·
    rw [if_neg hz, wu64]
    congr 2
    have e : (n - 1) % 18446744073709551616 = n - 1 := by omega
    rw [e, w64 (n - 1) (by omega) (by omega), w64 (-(n - 1)) (by omega) (by omega), w64 _ (by omega) (by omega)]
    omega
 | false =>
  simp only [Bool.false_eq_true, if_false]
  by_cases h : n > 9223372036854775807
  ·
   have : ¬ In64 n := by unfold In64; omega
   rw [if_pos h, if_neg this]
  ·
   have : In64 n := by unfold In64; omega
   rw [if_neg h, if_pos this, w64 n (by omega) (by omega)]
theorem RDiv_j0 (k : Nat) (neg b : Bool) (q : Int) (h0 : 0 ≤ q) (h1 : q < 18446744073709551616) :
  pledgeref1_Div.j0 (k + 1) neg q b = some (if In64 (if neg = true then -(q + if b = true then 1 else 0) else q + if b = true then 1 else 0) then (if neg = true then -(q + if b = true then 1 else 0) else q + if b = true then 1 else 0, true) else (0, false)) := by
 simp only [pledgeref1_Div.j0]
 cases b with
 | true =>
  simp only [if_true]
  by_cases hq : q = 18446744073709551615
  ·
   have : ¬ In64 (if neg = true then -(q + 1) else q + 1) := by unfold In64; split <;> omega
   rw [if_pos hq, if_neg this]
  ·
   have e : IntKind.u64.wrap (q + 1) = q + 1 := by rw [wu64]; omega
   rw [if_neg hq, e, Rsigned_eq neg (q + 1) (by omega) (by omega)]
   rfl
 | false =>
  simp only [Bool.false_eq_true, if_false, Int.add_zero]
  rw [Rsigned_eq neg q h0 h1]
  rfl
/-- The quotient by its size and its side. -/
theorem divS_size (a b c : Int) (up : Bool) (hc : 0 < c) (P : Int) (hP : P = (if a < 0 then -a else a) * (if b < 0 then -b else b)) :
  divS a b c up = if (decide (a < 0) != decide (b < 0)) = true then -(P / c + if P % c ≠ 0 ∧ up = false then 1 else 0) else P / c + if P % c ≠ 0 ∧ up = true then 1 else 0 := by
 have hab := abs_mul a b
 rw [← hP] at hab
 have m0 := Int.emod_nonneg P (show c ≠ 0 by omega)
 have hm : ∀ x : Int, 0 ≤ x → ((x > 0) ↔ x ≠ 0) := fun x h => by omega
 have hn := neg_div P c hc
 unfold divS
 by_cases hneg : (a < 0) ≠ (b < 0)
 ·
  rw [if_pos hneg] at hab
  have e : a * b = -P := by omega
  have e2 : (decide (a < 0) != decide (b < 0)) = true := by
   simp only [bne_iff_ne, ne_eq, decide_eq_decide]; intro x; exact hneg (propext x)
  rw [if_pos e2, e, Int.neg_neg, hn]
  cases up with
  | true => simp
  | false =>
   simp only [Bool.false_eq_true, if_false, and_true]
   by_cases hz : P % c = 0
   · simp [hz]
   · rw [if_pos (by omega), if_pos hz]; omega
 ·
  rw [if_neg hneg] at hab
  have e2 : ¬ (decide (a < 0) != decide (b < 0)) = true := by
   simp only [bne_iff_ne, ne_eq, decide_eq_decide, Decidable.not_not]
   exact iff_of_eq (Decidable.not_not.1 hneg)
  rw [if_neg e2, ← hab]
  cases up with
  | true =>
   simp only [if_true, and_true]
   rw [hn]
   by_cases hz : P % c = 0
   · simp [hz]
   · rw [if_pos (by omega), if_pos hz]; omega
  | false => simp
theorem RDiv_eq (a b c : Int) (up : Bool) (ha : In64 a) (hb : In64 b) (hc : 0 < c) (hc1 : c ≤ 9223372036854775807) (k : Nat) (hk : 401 < k) :
  pledgeref1_Div.f k a b c up = some (if In64 (divS a b c up) then (divS a b c up, true) else (0, false)) := by
 unfold pledgeref1_Div.f
 rw [if_neg (by omega), Rsize_eq a ha, Rsize_eq b hb]
 simp only [Option.bind_some]
 have ha' : 0 ≤ (if a < 0 then -a else a) ∧ (if a < 0 then -a else a) ≤ 9223372036854775808 := by obtain ⟨h0, h1⟩ := ha; split <;> omega
 have hb' : 0 ≤ (if b < 0 then -b else b) ∧ (if b < 0 then -b else b) ≤ 9223372036854775808 := by obtain ⟨h0, h1⟩ := hb; split <;> omega
 rw [RWide_eq _ _ ha'.1 (by omega) hb'.1 (by omega)]
 have hd := divS_size a b c up hc _ rfl
 have hP0 : 0 ≤ (if a < 0 then -a else a) * (if b < 0 then -b else b) := Int.mul_nonneg ha'.1 hb'.1
 have hP1 : (if a < 0 then -a else a) * (if b < 0 then -b else b) ≤ 9223372036854775808 * 9223372036854775808 := Int.mul_le_mul ha'.2 hb'.2 hb'.1 (by omega)
 generalize (if a < 0 then -a else a) * (if b < 0 then -b else b) = P at *
 clear ha' hb'
 obtain ⟨N, rfl⟩ := Int.eq_ofNat_of_zero_le hP0
 obtain ⟨C, rfl⟩ := Int.eq_ofNat_of_zero_le (show 0 ≤ c by omega)
 have hN : N < 2 ^ 128 := by
  have : (N : Int) < 340282366920938463463374607431768211456 := by omega
  have h2 : N < 340282366920938463463374607431768211456 := by omega
  exact h2
 obtain ⟨q, ho, hq⟩ := over_eq_ref N C hN (by omega) (by omega) k (by omega)
 simp only [Option.bind_some]
 have e1 : (N : Int) / 18446744073709551616 = ((N / 2 ^ 64 : Nat) : Int) := by rw [Int.natCast_ediv]; rfl
 have e2 : (N : Int) % 18446744073709551616 = ((N % 2 ^ 64 : Nat) : Int) := by rw [Int.natCast_emod]; rfl
 have e3 : IntKind.u64.wrap (C : Int) = (C : Int) := by rw [wu64]; omega
 rw [e1, e2, e3, ho]
 simp only [Option.bind_some]
 obtain ⟨k', hk'⟩ : ∃ m, k = m + 1 := ⟨k - 1, by omega⟩
 have hj := fun neg b q h0 h1 => RDiv_j0 k' neg b q h0 h1
 rw [← hk'] at hj
 have hr : ((N % C : Nat) : Int) = (N : Int) % (C : Int) := Int.natCast_emod N C
 have hqd : ((N / C : Nat) : Int) = (N : Int) / (C : Int) := Int.natCast_ediv N C
 have hdd : N / 2 ^ 64 / C = N / C / 2 ^ 64 := by rw [Nat.div_div_eq_div_mul, Nat.mul_comm, ← Nat.div_div_eq_div_mul]
 by_cases hz : N / 2 ^ 64 / C = 0
 ·
  rw [decide_eq_true hz]
  simp only [if_true]
  have hqq := hq hz
  have hb1 : N / C < 18446744073709551616 := by
   rw [hdd] at hz
   rcases Nat.div_eq_zero_iff.1 hz with h | h
   · exact absurd h (by decide)
   · exact h
  have hq0 : 0 ≤ q := by omega
  have hq1 : q < 18446744073709551616 := by omega
  rw [hd, ← hqd, ← hr, ← hqq]
  have hjj := fun neg b => hj neg b q hq0 hq1
  clear ho hr hd hj
  generalize (decide (a < 0) != decide (b < 0)) = neg
  generalize ((N % C : Nat) : Int) = R
  by_cases hrz : R = 0
  ·
   rw [if_pos hrz, hjj]
   simp [hrz]
  ·
   rw [if_neg hrz, hjj]
   cases neg <;> cases up <;> simp [hrz]
 ·
  rw [decide_eq_false hz]
  simp only [Bool.false_eq_true, if_false]
  have hbig : 18446744073709551616 ≤ N / C := by
   rw [hdd] at hz
   have hz' : ¬ (N / C < 2 ^ 64) := fun h => hz (Nat.div_eq_of_lt h)
   have : (2 : Nat) ^ 64 = 18446744073709551616 := by decide
   omega
  have hni : ¬ In64 (divS a b (C : Int) up) := by
   rw [hd, ← hqd]
   unfold In64
   repeat' split
   all_goals omega
  rw [if_neg hni]
theorem plus_eq (hi lo n : Int) (h0 : 0 ≤ lo) (h1 : lo < 18446744073709551616) (g0 : -1000000000 ≤ hi) (g1 : hi ≤ 1000000000) (n0 : -9223372036854775808 ≤ n) (n1 : n ≤ 9223372036854775807) :
  ∃ hi' lo', fix_wide_plus.f hi lo n = some (hi', lo') ∧ hi' * 18446744073709551616 + lo' = hi * 18446744073709551616 + lo + n ∧ 0 ≤ lo' ∧ lo' < 18446744073709551616 ∧ hi - 1 ≤ hi' ∧ hi' ≤ hi + 1 := by
 unfold fix_wide_plus.f
 rw [wu64]
 rw [if_pos h0, if_pos (by omega)]
 have e1 : wrap64 (hi + n / 9223372036854775808) = hi + n / 9223372036854775808 := w64 _ (by omega) (by omega)
 have e2 : wrap64 ((lo + n % 18446744073709551616) / 18446744073709551616) = (lo + n % 18446744073709551616) / 18446744073709551616 := w64 _ (by omega) (by omega)
 have e3 : wrap64 (hi + n / 9223372036854775808 + (lo + n % 18446744073709551616) / 18446744073709551616) = hi + n / 9223372036854775808 + (lo + n % 18446744073709551616) / 18446744073709551616 := w64 _ (by omega) (by omega)
 rw [e1, e2, e3]
 exact ⟨_, _, rfl, by omega, by omega, by omega, by omega, by omega⟩
theorem sum_l0 (l : List Int) (hl : l.length ≤ 90000) (hr : ∀ x ∈ l, Rng .i64 x) : ∀ (d i k : Nat) (hi lo : Int), l.length - i = d → i ≤ l.length → d < k → 0 ≤ lo → lo < 18446744073709551616 → -(i : Int) ≤ hi → hi ≤ i →
  hi * 18446744073709551616 + lo = (l.take i).sum → fix_Sum.l0 k l (l.length : Int) (i : Int) hi lo = some (if -9223372036854775808 ≤ l.sum ∧ l.sum ≤ 9223372036854775807 then (l.sum, true) else (0, false)) := by
 intro d
 induction d with
 | zero =>
  intro i k hi lo hd hi0 hk l0 l1 g0 g1 hs
  obtain ⟨k, rfl⟩ : ∃ m, k = m + 1 := ⟨k - 1, by omega⟩
  simp only [fix_Sum.l0]
  rw [if_neg (by omega)]
  have e : (l.take i).sum = l.sum := by rw [List.take_of_length_le (by omega)]
  rw [e] at hs
  by_cases hc : -9223372036854775808 ≤ l.sum ∧ l.sum ≤ 9223372036854775807
  ·
   rw [if_pos hc]
   have e1 : wrap64 lo = l.sum := by unfold wrap64; omega
   rw [e1, if_pos (by omega)]
  · rw [if_neg hc, if_neg (by unfold wrap64; omega)]
 | succ d ih =>
  intro i k hi lo hd hi0 hk l0 l1 g0 g1 hs
  obtain ⟨k, rfl⟩ : ∃ m, k = m + 1 := ⟨k - 1, by omega⟩
  have a0 : i < l.length := by omega
  have a1 : l.length - (i + 1) = d := by omega
  have a3 : d < k := by omega
  have ew : wrap64 ((i : Int) + 1) = ((i + 1 : Nat) : Int) := by unfold wrap64; omega
  clear hd hi0 hk
  simp only [fix_Sum.l0]
  rw [if_pos (by omega), if_pos (by omega), if_pos (by omega)]
  obtain ⟨n0, n1⟩ : -9223372036854775808 ≤ rd l (i : Int) ∧ rd l (i : Int) ≤ 9223372036854775807 := hr _ (rd_mem l i a0)
  obtain ⟨hi', lo', e, e2, q0, q1, q2, q3⟩ := plus_eq hi lo (rd l (i : Int)) l0 l1 (by omega) (by omega) n0 n1
  rw [e]
  simp only [Option.bind_some]
  rw [ew]
  have hs' : hi' * 18446744073709551616 + lo' = (l.take (i + 1)).sum := by rw [take_snoc_sum l i a0, e2, hs]
  clear e2 hs n0 n1 e ew
  exact ih (i + 1) k hi' lo' a1 a0 a3 q0 q1 (by omega) (by omega) hs'
theorem fix_Sum_eq (l : List Int) (hl : l.length ≤ 90000) (hr : ∀ x ∈ l, Rng .i64 x) (k : Nat) (hk : l.length < k) :
  fix_Sum.f k l = some (if -9223372036854775808 ≤ l.sum ∧ l.sum ≤ 9223372036854775807 then (l.sum, true) else (0, false)) := by
 unfold fix_Sum.f
 exact sum_l0 l hl hr l.length 0 k 0 0 (by omega) (by omega) hk (by omega) (by omega) (by omega) (by omega) (by simp)
theorem xor_max (x : Int) (h0 : 0 ≤ x) (h1 : x < 18446744073709551616) : Go.bits .xor .u64 IntKind.u64.max x = 18446744073709551615 - x := by
 obtain ⟨n, rfl⟩ := Int.eq_ofNat_of_zero_le h0
 have en : (BitVec.ofInt 64 (n : Int)).toNat = n := by
  rw [BitVec.toNat_ofInt, show ((2 ^ 64 : Nat) : Int) = 18446744073709551616 from rfl]
  omega
 show IntKind.u64.wrap (((BitVec.ofInt 64 IntKind.u64.max) ^^^ (BitVec.ofInt 64 (n : Int))).toNat : Int) = _
 have em : BitVec.ofInt 64 IntKind.u64.max = BitVec.allOnes 64 := rfl
 rw [em, BitVec.allOnes_xor, BitVec.toNat_not, en, wu64]
 omega
/-- Sizes: how far a number is from 0. -/
def ab (a : Int) : Int := if a < 0 then -a else a
theorem ab_bd (a : Int) (h : In64 a) : 0 ≤ ab a ∧ ab a ≤ 9223372036854775808 := by unfold ab; obtain ⟨h0, h1⟩ := h; split <;> omega
theorem ab_mul (a b : Int) : ab a * ab b = if (decide (a < 0) != decide (b < 0)) = true then -(a * b) else a * b := by
 have := abs_mul a b
 unfold ab
 rw [this]
 by_cases h1 : a < 0 <;> by_cases h2 : b < 0 <;> simp [h1, h2]
theorem ab_prod (a b : Int) (ha : In64 a) (hb : In64 b) : 0 ≤ ab a * ab b ∧ ab a * ab b ≤ 85070591730234615865843651857942052864 := by
 obtain ⟨a0, a1⟩ := ab_bd a ha
 obtain ⟨b0, b1⟩ := ab_bd b hb
 refine ⟨Int.mul_nonneg a0 b0, ?_⟩
 have : ab a * ab b ≤ 9223372036854775808 * 9223372036854775808 := Int.mul_le_mul a1 b1 b0 (by omega)
 omega
theorem product_eq (a b : Int) (ha : In64 a) (hb : In64 b) : fix_product.f a b = some (a * b / 18446744073709551616, a * b % 18446744073709551616) := by
 unfold fix_product.f
 have ⟨a0, a1⟩ := ab_bd a ha
 have ⟨b0, b1⟩ := ab_bd b hb
 rw [size_eq a ha, size_eq b hb]
 simp only [Option.bind_some]
 rw [show (if a < 0 then -a else a) = ab a from rfl, show (if b < 0 then -b else b) = ab b from rfl, Wide_eq _ _ a0 (by omega) b0 (by omega)]
 simp only [Option.bind_some]
 have hm := ab_mul a b
 have ⟨p0, p1⟩ := ab_prod a b ha hb
 generalize ab a * ab b = P at *
 have hnb : (decide (a < 0) == decide (b < 0)) = !(decide (a < 0) != decide (b < 0)) := by simp [bne]
 rw [hnb]
 generalize (decide (a < 0) != decide (b < 0)) = neg at *
 clear hnb ha hb a0 a1 b0 b1
 have m0 := Int.emod_nonneg P (show (18446744073709551616 : Int) ≠ 0 by omega)
 have m1 := Int.emod_lt_of_pos P (show (0 : Int) < 18446744073709551616 by omega)
 have q0 : 0 ≤ P / 18446744073709551616 := by omega
 have q1 : P / 18446744073709551616 ≤ 4611686018427387904 := by omega
 have e := Int.emod_add_mul_ediv P 18446744073709551616
 cases neg with
 | false =>
  simp only [Bool.not_false, if_true, Bool.false_eq_true, if_false] at hm ⊢
  rw [w64 _ (by omega) (by omega), hm]
 | true =>
  simp only [Bool.not_true, Bool.false_eq_true, if_false, if_true] at hm ⊢
  rw [xor_max _ m0 m1, xor_max _ q0 (by omega), if_pos (by omega), wu64]
  have hX : a * b = -P := by omega
  rw [hX]
  congr 2
  ·
   generalize P / 18446744073709551616 = q at *
   generalize P % 18446744073709551616 = r at *
   have hP : P = 18446744073709551616 * q + r := by omega
   subst hP
   clear hX hm p0 p1 e
   unfold wrap64
   by_cases hr : r = 0
   · subst hr; omega
   · omega
  · omega
theorem Or2 (x y : Int) (k : Nat) (hk : 3 < k) : cmp_Or_int.f k [x, y] = some (if x = 0 then y else x) := by
 unfold cmp_Or_int.f
 have hl : (([x, y] : List Int).length : Int) = 2 := rfl
 rw [hl]
 have r0 : rd [x, y] 0 = x := rfl
 have r1 : rd [x, y] 1 = y := rfl
 obtain ⟨k, rfl⟩ : ∃ m, k = m + 1 := ⟨k - 1, by omega⟩
 simp only [cmp_Or_int.l0]
 rw [if_pos (by omega), if_pos (by omega), hl, if_pos (by omega), r0, show wrap64 (0 + 1) = 1 from by rw [w64s _ (by omega) (by omega)]; rfl]
 by_cases hx : x = 0
 ·
  rw [if_pos hx, if_pos hx]
  obtain ⟨k, rfl⟩ : ∃ m, k = m + 1 := ⟨k - 1, by omega⟩
  simp only [cmp_Or_int.l0]
  rw [if_pos (by omega), if_pos (by omega), hl, if_pos (by omega), r1, show wrap64 (1 + 1) = 2 from by rw [w64s _ (by omega) (by omega)]; rfl]
  by_cases hy : y = 0
  ·
   rw [if_pos hy]
   obtain ⟨k, rfl⟩ : ∃ m, k = m + 1 := ⟨k - 1, by omega⟩
   simp only [cmp_Or_int.l0]
   rw [if_neg (by omega), hy]
  · rw [if_neg hy]
 · rw [if_neg hx, if_neg hx]
theorem Cmp64_eq (a b : Int) : cmp_Compare_int64.f a b = some (if a < b then -1 else if b < a then 1 else 0) := by
 unfold cmp_Compare_int64.f cmp_isNaN_int64.f
 simp only [Option.bind_some, bne_self_eq_false, Bool.false_eq_true, if_false]
 repeat' split
 all_goals first | rfl | omega
theorem CmpU_eq (a b : Int) : cmp_Compare_uint64.f a b = some (if a < b then -1 else if b < a then 1 else 0) := by
 unfold cmp_Compare_uint64.f cmp_isNaN_uint64.f
 simp only [Option.bind_some, bne_self_eq_false, Bool.false_eq_true, if_false]
 repeat' split
 all_goals first | rfl | omega
theorem lex_hi (X Y p r q s : Int) (hX : X = 18446744073709551616 * p + r) (hY : Y = 18446744073709551616 * q + s) (r0 : 0 ≤ r) (r1 : r < 18446744073709551616) (s0 : 0 ≤ s) (s1 : s < 18446744073709551616) :
  (if (if p < q then (-1 : Int) else if q < p then 1 else 0) = 0 then (if r < s then (-1 : Int) else if s < r then 1 else 0) else (if p < q then (-1 : Int) else if q < p then 1 else 0)) = if X < Y then -1 else if Y < X then 1 else 0 := by
 by_cases h1 : p < q
 · rw [if_pos h1, if_neg (show ¬ (-1 : Int) = 0 by omega), if_pos (show X < Y by omega)]
 ·
  rw [if_neg h1]
  by_cases h2 : q < p
  · rw [if_pos h2, if_neg (show ¬ (1 : Int) = 0 by omega), if_neg (show ¬ X < Y by omega), if_pos (show Y < X by omega)]
  ·
   rw [if_neg h2, if_pos rfl]
   obtain rfl : p = q := by omega
   by_cases h3 : r < s
   · rw [if_pos h3, if_pos (show X < Y by omega)]
   ·
    rw [if_neg h3]
    by_cases h4 : s < r
    · rw [if_pos h4, if_neg (show ¬ X < Y by omega), if_pos (show Y < X by omega)]
    · rw [if_neg h4, if_neg (show ¬ X < Y by omega), if_neg (show ¬ Y < X by omega)]
theorem Cmp_eq (a b c d : Int) (ha : In64 a) (hb : In64 b) (hc : In64 c) (hd : In64 d) (k : Nat) (hk : 3 < k) :
  fix_Cmp.f k a b c d = some (if a * b < c * d then -1 else if c * d < a * b then 1 else 0) := by
 unfold fix_Cmp.f
 rw [product_eq a b ha hb, product_eq c d hc hd]
 generalize a * b = X
 generalize c * d = Y
 simp only [Option.bind_some]
 rw [Cmp64_eq, CmpU_eq]
 simp only [Option.bind_some]
 rw [Or2 _ _ k hk]
 simp only [Option.bind_some]
 rw [lex_hi X Y _ _ _ _ (by omega) (by omega) (by omega) (by omega) (by omega) (by omega)]
open Go.Sort in
theorem insInner_perm (f : Int → Int → Bool) (a : Nat) : ∀ (j : Nat) (d : Array Int), a ≤ j → j < d.size → (insInner f a j d).toList.Perm d.toList
 | 0, d, _, _ => by rw [insInner]
 | j + 1, d, ha, hj => by
  rw [insInner]
  by_cases h : (decide (j + 1 > a) && f d[j + 1]! d[j]!) = true
  ·
   rw [if_pos h]
   have hja : j + 1 > a := by rw [Bool.and_eq_true] at h; exact of_decide_eq_true h.1
   have hp := (swp_permIn d 0 d.size (j + 1) j (by omega) hj (by omega) (by omega) (Nat.le_refl _)).2.2
   have hs : (swp d (j + 1) j).size = d.size := size_swp d (j + 1) j
   have ih := insInner_perm f a j (swp d (j + 1) j) (by omega) (by rw [hs]; omega)
   refine ih.trans ?_
   have e : ∀ x : Array Int, (x.extract 0 x.size) = x := fun x => by simp
   rw [e] at hp
   have e2 := e (swp d (j + 1) j)
   rw [hs] at e2
   rw [e2] at hp
   exact hp
  · rw [if_neg h]
open Go.Sort in
theorem insOuter_perm (f : Int → Int → Bool) (a b : Nat) : ∀ (n i : Nat) (d : Array Int), b - i = n → a ≤ i → b ≤ d.size → (insOuter f a b i d).toList.Perm d.toList
 | 0, i, d, h, _, _ => by rw [insOuter, if_neg (by omega)]
 | n + 1, i, d, h, ha, hb => by
  rw [insOuter, if_pos (by omega)]
  have h1 := insInner_perm f a i d ha (by omega)
  have h2 := insOuter_perm f a b n (i + 1) (insInner f a i d) (by omega) (by omega) (by have := h1.length_eq; simp only [Array.length_toList] at this; omega)
  exact h2.trans h1
def insrR (lt : Int → Int → Bool) : List Int → Int → List Int
 | [], x => [x]
 | y :: q, x => if lt x y = true then y :: insrR lt q x else x :: y :: q
theorem get_mid (p r : List Int) (x : Int) : (p ++ x :: r).toArray[p.length]! = x := by
 have h : p.length < (p ++ x :: r).toArray.size := by simp
 rw [getElem!_pos (p ++ x :: r).toArray p.length h, List.getElem_toArray, List.getElem_append_right (Nat.le_refl _)]
 simp
theorem swp_mid (p r : List Int) (y x : Int) : Go.Sort.swp (p ++ y :: x :: r).toArray (p.length + 1) p.length = (p ++ x :: y :: r).toArray := by
 have h1 := get_mid p (x :: r) y
 have h2 : (p ++ y :: x :: r).toArray[p.length + 1]! = x := by
  have := get_mid (p ++ [y]) r x
  rw [List.append_assoc, List.length_append] at this
  exact this
 unfold Go.Sort.swp
 rw [h1, h2]
 apply Array.ext'
 simp [Array.setIfInBounds, List.set_append_right]
theorem insInner_list (lt : Int → Int → Bool) (x : Int) : ∀ (q r : List Int), Go.Sort.insInner lt 0 q.length (q.reverse ++ x :: r).toArray = ((insrR lt q x).reverse ++ r).toArray
 | [], r => by simp [Go.Sort.insInner, insrR]
 | y :: q, r => by
  have ih := insInner_list lt x q (y :: r)
  have hl : (y :: q).reverse ++ x :: r = q.reverse ++ y :: x :: r := by simp
  have hq : q.length = q.reverse.length := (List.length_reverse).symm
  rw [hl, List.length_cons, Go.Sort.insInner]
  have h1 := get_mid q.reverse (x :: r) y
  have h2 : (q.reverse ++ y :: x :: r).toArray[q.reverse.length + 1]! = x := by
   have := get_mid (q.reverse ++ [y]) r x
   rw [List.append_assoc, List.length_append] at this
   exact this
  have hs := swp_mid q.reverse r y x
  rw [← hq] at h1 h2 hs
  rw [h1, h2, hs, decide_eq_true (show q.length + 1 > 0 by omega), Bool.true_and]
  by_cases hlt : lt x y = true
  ·
   rw [if_pos hlt, ih]
   simp only [insrR]
   rw [if_pos hlt]
   simp
  ·
   rw [if_neg hlt]
   simp only [insrR]
   rw [if_neg hlt]
   simp
/-- The first n places in order. -/
def insL (lt : Int → Int → Bool) : Nat → List Int
 | 0 => []
 | n + 1 => (insrR lt (insL lt n).reverse (n : Int)).reverse
theorem insrR_len (lt : Int → Int → Bool) (x : Int) : ∀ q : List Int, (insrR lt q x).length = q.length + 1
 | [] => rfl
 | y :: q => by
  simp only [insrR]
  split
  · simp only [List.length_cons, insrR_len lt x q]
  · rfl
theorem insL_len (lt : Int → Int → Bool) : ∀ n : Nat, (insL lt n).length = n
 | 0 => rfl
 | n + 1 => by simp only [insL, List.length_reverse, insrR_len, insL_len lt n]
theorem insOuter_list (lt : Int → Int → Bool) (n : Nat) : ∀ (d i : Nat), i + d = n → Go.Sort.insOuter lt 0 n i (insL lt i ++ ((List.range' i d).map fun j : Nat => (j : Int))).toArray = (insL lt n).toArray
 | 0, i, h => by
  obtain rfl : i = n := by omega
  rw [Go.Sort.insOuter, if_neg (by omega)]
  simp
 | d + 1, i, h => by
  have ih := insOuter_list lt n d (i + 1) (by omega)
  rw [Go.Sort.insOuter, if_pos (by omega)]
  have e : Go.Sort.insInner lt 0 i (insL lt i ++ ((List.range' i (d + 1)).map fun j : Nat => (j : Int))).toArray = (insL lt (i + 1) ++ ((List.range' (i + 1) d).map fun j : Nat => (j : Int))).toArray := by
   have h1 := insInner_list lt (i : Int) (insL lt i).reverse ((List.range' (i + 1) d).map fun j : Nat => (j : Int))
   rw [List.length_reverse, insL_len, List.reverse_reverse] at h1
   rw [List.range'_succ, List.map_cons, h1]
   rfl
  rw [e, ih]
theorem Is_none (code : Int) : pledgesee_Is.f none code = some (decide (0 = code)) := by
 unfold pledgesee_Is.f pledgeref_Bare.f pledgesee_Same.f pledgesee_Fault.f pledgeref_None.f pledgeref_SameFault.f
 by_cases h : 0 = code <;> simp [h]
theorem Is_some (c code : Int) (h1 : 101 ≤ c) (h2 : c ≤ 121) : pledgesee_Is.f (some c) code = some (decide (c = code)) := by
 unfold pledgesee_Is.f pledgeref_Bare.f pledgesee_Same.f pledgesee_Fault.f pledgesee_sentinel.f pledgeref_Bare.f pledgeref_SameFault.f
 by_cases h : c = code <;> simp [h, h1, h2] <;> simp [← h, h1, h2]
theorem spF_big : 1000 < spF := by decide
def amt (n : Int) : Prop := 0 ≤ n ∧ n ≤ 1000000000000000
theorem amtB_t {n : Int} (h : amt n) : amtB n = true := by unfold amtB; exact decide_eq_true h
theorem amtB_f {n : Int} (h : ¬ amt n) : amtB n = false := by unfold amtB; exact decide_eq_false h
theorem amount_t {n : Int} (h : amt n) : share_amount.f n = some true := by rw [amount_b, amtB_t h]
theorem amount_f {n : Int} (h : ¬ amt n) : share_amount.f n = some false := by rw [amount_b, amtB_f h]
/-- A part, down. -/
theorem part_le {v w s : Int} (hv : 0 ≤ v) (hw : w ≤ s) (hs : 0 < s) : v * w / s ≤ v := by
 have h1 : v * w ≤ v * s := Int.mul_le_mul_of_nonneg_left hw hv
 have h2 := Int.ediv_le_ediv hs h1
 rw [Int.mul_ediv_cancel _ (show s ≠ 0 by omega)] at h2
 exact h2
theorem Floor_eq (v w s : Int) (hv : amt v) (hw : 0 ≤ w) (hws : w ≤ s) (hs0 : 0 < s) (hs : s ≤ 1000000000000000) (k : Nat) (hk : 40 < k) : share_Floor.f k v w s = some (v * w / s, none) := by
 have h0 := hv
 unfold amt at h0
 unfold share_Floor.f
 rw [amount_t hv, Option.bind_some, if_pos rfl, amount_t (show amt w from ⟨hw, by omega⟩), Option.bind_some, if_pos rfl, amount_t (show amt s from ⟨by omega, hs⟩), Option.bind_some, if_pos rfl, if_neg (by omega), if_neg (by omega), Div_eq v w s false (by unfold In64; omega) (by unfold In64; omega) hs0 (by omega) k hk]
 have e : divS v w s false = v * w / s := by unfold divS; simp
 have p0 : 0 ≤ v * w / s := Int.ediv_nonneg (Int.mul_nonneg h0.1 hw) (by omega)
 have p1 := part_le h0.1 hws hs0
 rw [e, if_pos (by unfold In64; omega), Option.bind_some]
theorem Floor_bad (v w s : Int) (h : ¬ (amt v ∧ amt w ∧ amt s ∧ w ≤ s ∧ s ≠ 0)) (k : Nat) : share_Floor.f k v w s = some (0, some 103) := by
 unfold share_Floor.f
 by_cases h1 : amt v
 ·
  rw [amount_t h1, Option.bind_some, if_pos rfl]
  by_cases h2 : amt w
  ·
   rw [amount_t h2, Option.bind_some, if_pos rfl]
   by_cases h3 : amt s
   ·
    rw [amount_t h3, Option.bind_some, if_pos rfl]
    by_cases h4 : w > s
    · rw [if_pos h4]
    · rw [if_neg h4, if_pos (Decidable.byContradiction fun h5 => h ⟨h1, h2, h3, by omega, h5⟩)]
   · rw [amount_f h3, Option.bind_some, if_neg (by simp)]
  · rw [amount_f h2, Option.bind_some, if_neg (by simp)]
 · rw [amount_f h1, Option.bind_some, if_neg (by simp)]
theorem rest_eq (v w s : Int) (hv : amt v) (hw : 0 ≤ w) (hws : w ≤ s) (hs0 : 0 < s) (hs : s ≤ 1000000000000000) : share_rest.f v w s (v * w / s) = some (v * w % s) := by
 have h0 := hv
 unfold amt at h0
 have p0 : 0 ≤ v * w / s := Int.ediv_nonneg (Int.mul_nonneg h0.1 hw) (by omega)
 have p1 := part_le h0.1 hws hs0
 have hm := Int.emod_add_mul_ediv (v * w) s
 have r0 := Int.emod_nonneg (v * w) (show s ≠ 0 by omega)
 have r1 := Int.emod_lt_of_pos (v * w) hs0
 unfold share_rest.f
 rw [wu64, wu64, wu64, wu64, show v % 18446744073709551616 = v by omega, show w % 18446744073709551616 = w by omega, show s % 18446744073709551616 = s by omega, show v * w / s % 18446744073709551616 = v * w / s by omega, Wide_eq v w (by omega) (by omega) hw (by omega), Option.bind_some, Wide_eq (v * w / s) s p0 (by omega) (by omega) (by omega), Option.bind_some]
 simp only []
 have hc : v * w / s * s = s * (v * w / s) := Int.mul_comm _ _
 rw [hc, wu64]
 generalize v * w = X at *
 generalize X % s = r at *
 generalize s * (X / s) = Y at *
 have e : (X % 18446744073709551616 - Y % 18446744073709551616) % 18446744073709551616 = r := by omega
 rw [e, w64 r (by omega) (by omega)]
/-- Floors; what is above them. -/
def fls (v s : Int) (ws : List Int) : List Int := ws.map fun w => v * w / s
def rss (v s : Int) (ws : List Int) : List Int := ws.map fun w => v * w % s
theorem fls_len (v s : Int) (ws : List Int) : (fls v s ws).length = ws.length := List.length_map _
theorem rss_len (v s : Int) (ws : List Int) : (rss v s ws).length = ws.length := List.length_map _
theorem rd_map (f : Int → Int) (ws : List Int) (i : Nat) (h : i < ws.length) : rd (ws.map f) (i : Int) = f (rd ws (i : Int)) := by
 rw [rd_nat, rd_nat, List.getD_eq_getElem?_getD, List.getD_eq_getElem?_getD, List.getElem?_map, List.getElem?_eq_getElem h]; rfl
theorem set_mid (f : List Int) (n i : Nat) (h : i < n) (hf : i < f.length) (v : Int) (hv : rd f (i : Int) = v) : (f.take i ++ List.replicate (n - i) 0).set i v = f.take (i + 1) ++ List.replicate (n - (i + 1)) 0 := by
 obtain ⟨m, hm⟩ : ∃ m, n - i = m + 1 := ⟨n - i - 1, by omega⟩
 have hl : (f.take i).length = i := by rw [List.length_take]; omega
 rw [hm, show n - (i + 1) = m by omega, List.replicate_succ, List.set_append_right _ _ (by omega), hl, Nat.sub_self, List.set_cons_zero, List.take_succ_eq_append_getElem hf, List.append_assoc]
 rw [rd_nat, List.getD_eq_getElem?_getD, List.getElem?_eq_getElem hf] at hv
 rw [← hv]; rfl
theorem key_inv (v s : Int) : ∀ ws : List Int, s * (fls v s ws).sum + (rss v s ws).sum = v * ws.sum
 | [] => by simp [fls, rss]
 | w :: ws => by
  have ih := key_inv v s ws
  have h1 := Int.emod_add_mul_ediv (v * w) s
  unfold fls rss at ih ⊢
  simp only [List.map_cons, List.sum_cons, Int.mul_add]
  generalize (List.map (fun w => v * w / s) ws).sum = A at *
  generalize (List.map (fun w => v * w % s) ws).sum = C at *
  generalize s * A = SA at *
  generalize s * (v * w / s) = SB at *
  omega
theorem sum_nonneg : ∀ l : List Int, (∀ x ∈ l, 0 ≤ x) → 0 ≤ l.sum
 | [], _ => by simp
 | x :: l, h => by
  have := sum_nonneg l (fun y hy => h y (List.mem_cons_of_mem _ hy))
  have := h x (List.mem_cons_self ..)
  simp; omega
theorem mem_le_sum : ∀ l : List Int, (∀ x ∈ l, 0 ≤ x) → ∀ x ∈ l, x ≤ l.sum
 | [], _, x, hx => by simp at hx
 | y :: l, h, x, hx => by
  have h1 := sum_nonneg l (fun y hy => h y (List.mem_cons_of_mem _ hy))
  have h2 := h y (List.mem_cons_self ..)
  rw [List.sum_cons]
  rcases List.mem_cons.1 hx with rfl | hx
  · omega
  ·
   have := mem_le_sum l (fun y hy => h y (List.mem_cons_of_mem _ hy)) x hx
   omega
theorem take_sum_le (l : List Int) (h : ∀ x ∈ l, 0 ≤ x) (i : Nat) : (l.take i).sum ≤ l.sum := by
 have h1 := sum_nonneg (l.drop i) (fun x hx => h x (List.mem_of_mem_drop hx))
 have h2 : l.sum = (l.take i).sum + (l.drop i).sum := by rw [← List.sum_append, List.take_append_drop]
 omega
theorem rss_sum_lt (v s : Int) (hs : 0 < s) : ∀ ws : List Int, ws ≠ [] → (rss v s ws).sum < s * (ws.length : Int)
 | [], h => absurd rfl h
 | [w], _ => by
  have := Int.emod_lt_of_pos (v * w) hs
  simp [rss]; omega
 | w :: x :: ws, _ => by
  have ih := rss_sum_lt v s hs (x :: ws) (by simp)
  have := Int.emod_lt_of_pos (v * w) hs
  unfold rss at ih ⊢
  rw [List.map_cons, List.sum_cons, List.length_cons]
  have e : s * (((x :: ws).length + 1 : Nat) : Int) = s * (((x :: ws).length : Nat) : Int) + s := by rw [Int.natCast_add, Int.mul_add]; simp
  rw [e]
  omega
/-- Weights that may be, of a whole that may be. -/
structure OkW (v : Int) (ws : List Int) : Prop where
 whole : amt v
 pos : 0 < ws.length
 len : ws.length ≤ 32
 each : ∀ w ∈ ws, amt w
 some_ : 0 < ws.sum
 sum : ws.sum ≤ 1000000000000000
theorem OkW.fl_nonneg {v : Int} {ws : List Int} (h : OkW v ws) : ∀ x ∈ fls v ws.sum ws, 0 ≤ x := by
 intro x hx
 obtain ⟨w, hw, rfl⟩ := List.mem_map.1 hx
 exact Int.ediv_nonneg (Int.mul_nonneg h.whole.1 (h.each w hw).1) (by have := h.some_; omega)
theorem OkW.rs_rng {v : Int} {ws : List Int} (h : OkW v ws) : ∀ x ∈ rss v ws.sum ws, 0 ≤ x ∧ x < ws.sum := by
 intro x hx
 obtain ⟨w, hw, rfl⟩ := List.mem_map.1 hx
 exact ⟨Int.emod_nonneg _ (by have := h.some_; omega), Int.emod_lt_of_pos _ h.some_⟩
theorem OkW.left {v : Int} {ws : List Int} (h : OkW v ws) : 0 ≤ v - (fls v ws.sum ws).sum ∧ v - (fls v ws.sum ws).sum < (ws.length : Int) := by
 have hk := key_inv v ws.sum ws
 have h1 := sum_nonneg _ (fun x hx => (h.rs_rng x hx).1)
 have h2 := rss_sum_lt v ws.sum h.some_ ws (by have := h.pos; intro e; rw [e] at this; simp at this)
 have hs := h.some_
 have e : ws.sum * (v - (fls v ws.sum ws).sum) = (rss v ws.sum ws).sum := by rw [Int.mul_sub, Int.mul_comm ws.sum v]; omega
 constructor
 ·
  refine Decidable.byContradiction fun hn => ?_
  have := Int.mul_neg_of_pos_of_neg hs (show v - (fls v ws.sum ws).sum < 0 by omega)
  omega
 · exact Int.lt_of_mul_lt_mul_left (by rw [e]; exact h2) (by omega)
theorem spl_eq {v : Int} {ws : List Int} (h : OkW v ws) (k : Nat) (hk : 40 < k) : ∀ (d i : Nat), i + d = ws.length →
  splL k v ws.sum ws d i (v - ((fls v ws.sum ws).take i).sum) ((fls v ws.sum ws).take i ++ List.replicate (ws.length - i) 0) ((rss v ws.sum ws).take i ++ List.replicate (ws.length - i) 0) = some (fls v ws.sum ws, rss v ws.sum ws, v - (fls v ws.sum ws).sum)
 | 0, i, hi => by
  have e : i = ws.length := by omega
  subst e
  simp only [splL]
  rw [Nat.sub_self, List.replicate_zero, List.append_nil, List.append_nil, List.take_of_length_le (by rw [fls_len]; omega), List.take_of_length_le (by rw [rss_len]; omega)]
 | d + 1, i, hi => by
  have hi' : i < ws.length := by omega
  have hw := h.each _ (rd_mem ws i hi')
  have hle := mem_le_sum ws (fun x hx => (h.each x hx).1) _ (rd_mem ws i hi')
  have hf : rd (fls v ws.sum ws) (i : Int) = v * rd ws (i : Int) / ws.sum := rd_map _ ws i hi'
  have hr : rd (rss v ws.sum ws) (i : Int) = v * rd ws (i : Int) % ws.sum := rd_map _ ws i hi'
  have hl : wrap64 (v - ((fls v ws.sum ws).take i).sum - v * rd ws (i : Int) / ws.sum) = v - ((fls v ws.sum ws).take (i + 1)).sum := by
   rw [take_snoc_sum _ i (by rw [fls_len]; exact hi'), hf]
   have h1 := sum_nonneg ((fls v ws.sum ws).take (i + 1)) (fun x hx => h.fl_nonneg x (List.mem_of_mem_take hx))
   have h2 := take_sum_le _ h.fl_nonneg (i + 1)
   rw [take_snoc_sum _ i (by rw [fls_len]; exact hi'), hf] at h1 h2
   have h3 := h.left.1
   have h4 := h.whole
   unfold amt at h4
   rw [w64 _ (by omega) (by omega)]
   omega
  simp only [splL]
  rw [Floor_eq v _ ws.sum h.whole hw.1 hle h.some_ h.sum k hk, Option.bind_some]
  simp only []
  rw [if_pos trivial, rest_eq v _ ws.sum h.whole hw.1 hle h.some_ h.sum, Option.bind_some, hl, set_mid _ _ i hi' (by rw [fls_len]; exact hi') _ hf, set_mid _ _ i hi' (by rw [rss_len]; exact hi') _ hr]
  exact spl_eq h k hk d (i + 1) (by omega)
theorem spC_eq (q : List Int) (hq : ∀ x ∈ q, In64 x) (i j : Nat) (hi : i < q.length) (hj : j < q.length) : fix_Cmp.f spK (rd q (j : Int)) 1 (rd q (i : Int)) 1 = some (if rd q (j : Int) < rd q (i : Int) then -1 else if rd q (i : Int) < rd q (j : Int) then 1 else 0) := by
 rw [Cmp_eq _ 1 _ 1 (hq _ (rd_mem q j hj)) (by unfold In64; omega) (hq _ (rd_mem q i hi)) (by unfold In64; omega) spK (by decide)]
 simp only [Int.mul_one]
theorem ltI_sp (q : List Int) (hq : ∀ x ∈ q, In64 x) (i j : Nat) (hi : i < q.length) (hj : j < q.length) : ltI (spC q) (i : Int) (j : Int) = decide (rd q (j : Int) < rd q (i : Int)) := by
 unfold ltI spC
 rw [spC_eq q hq i j hi hj, Option.getD_some]
 by_cases h : rd q (j : Int) < rd q (i : Int)
 · rw [if_pos h, decide_eq_true h]; rfl
 · rw [if_neg h, decide_eq_false h]; split <;> rfl
theorem spOK_eq (q : List Int) (hq : ∀ x ∈ q, In64 x) : spOK q = true := by
 unfold spOK
 refine List.all_eq_true.2 fun i hi => List.all_eq_true.2 fun j hj => ?_
 rw [spC_eq q hq i j (List.mem_range.1 hi) (List.mem_range.1 hj)]
 rfl
theorem spO_perm (q : List Int) : (spO q).Perm (ixs q.length) := by
 unfold spO Go.Sort.insertionSort
 exact insOuter_perm _ 0 q.length _ (0 + 1) _ rfl (by omega) (by rw [List.size_toArray, ixs_len]; exact Nat.le_refl _)
theorem ixs_mem (n : Nat) (x : Int) (h : x ∈ ixs n) : 0 ≤ x ∧ x < (n : Int) := by
 unfold ixs at h
 obtain ⟨p, hp, rfl⟩ := List.mem_map.1 h
 have := List.mem_range.1 hp
 omega
theorem spO_mem (q : List Int) (x : Int) (h : x ∈ spO q) : 0 ≤ x ∧ x < (q.length : Int) := ixs_mem _ x ((spO_perm q).mem_iff.1 h)
theorem spO_len (q : List Int) : (spO q).length = q.length := by rw [(spO_perm q).length_eq, ixs_len]
theorem OkW.rs64 {v : Int} {ws : List Int} (h : OkW v ws) : ∀ x ∈ rss v ws.sum ws, In64 x := fun x hx => by
 have := h.rs_rng x hx
 have := h.sum
 unfold In64; omega
theorem sum_rng {ws : List Int} (h : ∀ w ∈ ws, amt w) : ∀ x ∈ ws, Rng .i64 x := fun x hx => by
 have := h x hx
 unfold amt at this
 refine ⟨Int.le_trans ?_ this.1, Int.le_trans this.2 ?_⟩ <;> decide
theorem any_amt (ws : List Int) (h : ∀ w ∈ ws, amt w) : (ws.any fun n => !amtB n) = false := by
 rw [List.any_eq_false]
 intro x hx
 rw [amtB_t (h x hx)]; simp
/-- The comparison says what stands in the rests. -/
theorem spQK_eq (q : List Int) (hq : ∀ x ∈ q, In64 x) : spQK q = true := by
 unfold spQK
 refine List.all_eq_true.2 fun i hi => List.all_eq_true.2 fun j hj => ?_
 have h := ltI_sp q hq i j (List.mem_range.1 hi) (List.mem_range.1 hj)
 unfold ltI at h
 rw [h]
 simp
/-- Split, of up to 32 weights that may be. -/
theorem Split_ok {v : Int} {ws : List Int} (h : OkW v ws) : share_Split.f v ws = some (incL (spO (rss v ws.sum ws)) (v - (fls v ws.sum ws).sum).toNat 0 (fls v ws.sum ws), none) := by
 have hs0 := h.some_
 have hs1 := h.sum
 have hl := h.left
 have hlen := h.len
 unfold share_Split.f
 rw [if_neg (by omega), if_neg (by rw [amtB_t h.whole]; simp), if_neg (by rw [any_amt ws h.each]; simp), fix_Sum_eq ws (by omega) (sum_rng h.each) spF (by have := spF_big; omega), if_pos (by omega), Option.bind_some]
 simp only []
 rw [if_neg (by simp), if_neg (by omega), if_neg (by omega)]
 have e := spl_eq h spF (by have := spF_big; omega) ws.length 0 (by omega)
 rw [List.take_zero, List.take_zero, List.nil_append, Nat.sub_zero, List.sum_nil, Int.sub_zero] at e
 rw [e, Option.bind_some, if_pos]
 refine ⟨⟨h.pos, hlen, spQK_eq _ h.rs64⟩, ⟨fls_len _ _ _, rss_len _ _ _⟩, spOK_eq _ h.rs64, ⟨hl.1, by simp only []; omega⟩, by simp only []; rw [spO_len, rss_len], fun y hy => ?_⟩
 have := spO_mem _ y hy
 rw [rss_len] at this
 exact this
theorem spO_ins (q : List Int) (h : 0 < q.length) : spO q = insL (ltI (spC q)) q.length := by
 unfold spO Go.Sort.insertionSort
 have e := insOuter_list (ltI (spC q)) q.length (q.length - 1) 1 (by omega)
 have e2 : (insL (ltI (spC q)) 1 ++ ((List.range' 1 (q.length - 1)).map fun j : Nat => (j : Int))) = ixs q.length := by
  obtain ⟨m, hm⟩ : ∃ m, q.length = m + 1 := ⟨q.length - 1, by omega⟩
  unfold ixs
  rw [hm, Nat.add_sub_cancel, List.range_eq_range', List.range'_succ, List.map_cons]
  rfl
 rw [e2] at e
 rw [show (0 : Nat) + 1 = 1 from rfl, e]
theorem SameL_self (xs : List Int) (hl : xs.length < 1000) (k : Nat) (hk : 1000 < k) : pledgeref_SameLongs.f k xs xs = some true := by
 have g : ∀ (d i k : Nat), i + d = xs.length → d < k → pledgeref_SameLongs.l0 k xs xs (i : Int) = some true := fun d => by
  induction d with
  | zero =>
   intro i k h hk
   obtain ⟨k, rfl⟩ : ∃ m, k = m + 1 := ⟨k - 1, by omega⟩
   simp only [pledgeref_SameLongs.l0]
   rw [if_neg (by omega)]
  | succ d ih =>
   intro i k h hk
   obtain ⟨k, rfl⟩ : ∃ m, k = m + 1 := ⟨k - 1, by omega⟩
   simp only [pledgeref_SameLongs.l0]
   rw [if_pos (by omega), if_pos (by omega), if_pos (by omega), if_pos trivial, show wrap64 ((i : Int) + 1) = ((i + 1 : Nat) : Int) by rw [w64s _ (by omega) (by omega)]; omega]
   exact ih (i + 1) k (by omega) (by omega)
 unfold pledgeref_SameLongs.f
 rw [if_pos rfl]
 exact g xs.length 0 k (by omega) (by omega)
theorem spC_lt (q : List Int) (hq : ∀ x ∈ q, In64 x) (x y : Int) (h0 : 0 ≤ x) (h1 : x < q.length) (h2 : 0 ≤ y) (h3 : y < q.length) : spC q x y < 0 ↔ rd q y < rd q x := spQK_all (spQK_eq q hq) x y h0 h1 h2 h3
/-- The order is one by the rests, the first of alike ones first. -/
theorem spO_srt (q : List Int) (hq : ∀ x ∈ q, In64 x) (hp : 0 < q.length) : (spO q).Pairwise (tq q) := by
 unfold spO
 have hz := ixs_size q.length
 have m := ins_mrg (tq q) (ltI (spC q)) (tq_trans q) 0 q.length (ixs q.length).toArray hp (by omega) (fun x y q1 q2 q3 => by
  rw [ixs_get _ x (by omega), ixs_get _ y q3]
  have hc := spC_lt q hq (y : Int) (x : Int) (by omega) (by omega) (by omega) (by omega)
  refine ⟨⟨fun h => Or.inl (hc.1 (of_decide_eq_true h)), fun h => decide_eq_true (hc.2 ?_)⟩, fun h => ?_⟩
  · unfold tq at h; omega
  · unfold tq at *; omega)
 exact srt_list (by rw [m.size, hz]; exact m.srt)
theorem spO_nodup (q : List Int) : (spO q).Nodup := by
 refine (spO_perm q).nodup_iff.2 ?_
 unfold ixs
 exact List.pairwise_map.2 (List.Pairwise.imp (fun h e => h (Int.ofNat.inj e)) List.nodup_range)
theorem incL_len (o : List Int) : ∀ (d j : Nat) (x : List Int), (incL o d j x).length = x.length
 | 0, _, _ => rfl
 | d + 1, j, x => by simp only [incL]; rw [incL_len o d, List.length_set]
theorem rd_set' (x : List Int) (i j : Nat) (v : Int) (hi : i < x.length) : rd (x.set i v) (j : Int) = if j = i then v else rd x (j : Int) := by
 rw [rd_nat, rd_nat, List.getD_eq_getElem?_getD, List.getD_eq_getElem?_getD, List.getElem?_set]
 by_cases h : i = j
 · subst h; rw [if_pos rfl, if_pos rfl, if_pos hi]; rfl
 · rw [if_neg h, if_neg (fun e => h e.symm)]
/-- What holds of shares. -/
structure Shr (v : Int) (ws sh : List Int) (all : Int) (low : Nat → Int) : Prop where
 len : sh.length = ws.length
 l32 : ws.length ≤ 32
 each : ∀ i : Nat, i < ws.length → (rd sh (i : Int) = low i ∨ rd sh (i : Int) = low i + 1) ∧ 0 ≤ low i ∧ low i ≤ 1000000000000000
 more : ∀ i k : Nat, i < ws.length → k < ws.length → rd ws (k : Int) < rd ws (i : Int) → rd sh (k : Int) ≤ rd sh (i : Int)
 alike : ∀ i k : Nat, i < k → k < ws.length → rd ws (i : Int) = rd ws (k : Int) → rd sh (k : Int) ≤ rd sh (i : Int)
 sum : sh.sum = v
 nn : ∀ x ∈ sh, 0 ≤ x
 v1 : v ≤ 1000000000000000
theorem sum_le (c : Int) (hc : 0 ≤ c) : ∀ l : List Int, (∀ x ∈ l, x ≤ c) → l.sum ≤ c * (l.length : Int)
 | [], _ => by simp
 | x :: l, h => by
  have h1 := sum_le c hc l (fun y hy => h y (List.mem_cons_of_mem _ hy))
  have h2 := h x (List.mem_cons_self ..)
  rw [List.sum_cons, List.length_cons, show c * ((l.length + 1 : Nat) : Int) = c * (l.length : Int) + c by rw [Int.natCast_add, Int.mul_add]; simp]
  omega
theorem rd3 (i : Nat) : rd ([1, 1, 1] : List Int) (i : Int) = if i < 3 then 1 else 0 := by
 rw [rd_nat]
 match i with
 | 0 => rfl
 | 1 => rfl
 | 2 => rfl
 | i + 3 => rw [if_neg (by omega)]; rfl
theorem split3 : share_Split.f 10 [1, 1, 1] = some ([4, 3, 3], none) := by
 have hw : OkW 10 [1, 1, 1] := ⟨by unfold amt; omega, by simp, by simp, by intro w hw; simp at hw; subst hw; unfold amt; omega, by simp, by simp⟩
 rw [Split_ok hw]
 have e1 : ([1, 1, 1] : List Int).sum = 3 := rfl
 have e2 : fls 10 3 [1, 1, 1] = [3, 3, 3] := rfl
 have e3 : rss 10 3 [1, 1, 1] = [1, 1, 1] := rfl
 rw [e1, e2, e3, spO_ins [1, 1, 1] (by simp)]
 have hlt : ∀ i j : Nat, i < 3 → j < 3 → ltI (spC [1, 1, 1]) (i : Int) (j : Int) = false := fun i j hi hj => by
  rw [ltI_sp [1, 1, 1] (by intro x hx; simp at hx; subst hx; unfold In64; omega) i j hi hj, rd3, rd3, if_pos hi, if_pos hj]; rfl
 have h10 : ltI (spC [1, 1, 1]) 1 0 = false := hlt 1 0 (by omega) (by omega)
 have h21 : ltI (spC [1, 1, 1]) 2 1 = false := hlt 2 1 (by omega) (by omega)
 have hi : insL (ltI (spC [1, 1, 1])) ([1, 1, 1] : List Int).length = [0, 1, 2] := by
  have e0 : insL (ltI (spC [1, 1, 1])) 1 = [0] := rfl
  have e4 : insL (ltI (spC [1, 1, 1])) 2 = [0, 1] := by
   show (insrR (ltI (spC [1, 1, 1])) (insL (ltI (spC [1, 1, 1])) 1).reverse 1).reverse = _
   rw [e0]
   simp [insrR, h10]
  show (insrR (ltI (spC [1, 1, 1])) (insL (ltI (spC [1, 1, 1])) 2).reverse 2).reverse = _
  rw [e4]
  simp [insrR, h21]
 rw [hi]
 have e5 : ((10 : Int) - ([3, 3, 3] : List Int).sum).toNat = 1 := rfl
 rw [e5]
 have e6 : rd ([0, 1, 2] : List Int) ((0 : Nat) : Int) = 0 := rfl
 have e7 : rd ([3, 3, 3] : List Int) 0 = 3 := rfl
 simp only [incL]
 rw [e6, e7, w64s (3 + 1) (by omega) (by omega)]
 rfl
theorem first23 (k : Nat) (hk : 1000 < k) : pledgelaw23_first.f k = some true := by
 unfold pledgelaw23_first.f
 rw [split3, Option.bind_some]
 simp only [Option.isNone_none]
 rw [if_pos trivial, SameL_self _ (by simp) k hk, Option.bind_some]
theorem ramount_b (n : Int) : pledgeref10_amount.f n = some (amtB n) := by
 unfold pledgeref10_amount.f
 by_cases h : n ≥ 0
 ·
  rw [if_pos h]
  by_cases h2 : n ≤ 1000000000000000
  · rw [amtB_t ⟨h, h2⟩, decide_eq_true h2]
  · rw [amtB_f (fun c => h2 c.2), decide_eq_false h2]
 · rw [if_neg h, amtB_f (fun c => h c.1)]
theorem ramount_t {n : Int} (h : amt n) : pledgeref10_amount.f n = some true := by rw [ramount_b, amtB_t h]
theorem ramount_f {n : Int} (h : ¬ amt n) : pledgeref10_amount.f n = some false := by rw [ramount_b, amtB_f h]
theorem RFloor_eq (v w s : Int) (hv : amt v) (hw : 0 ≤ w) (hws : w ≤ s) (hs0 : 0 < s) (hs : s ≤ 1000000000000000) (k : Nat) (hk : 401 < k) : pledgeref10_Floor.f k v w s = some (v * w / s, 0) := by
 have h0 := hv
 unfold amt at h0
 unfold pledgeref10_Floor.f
 rw [ramount_t hv, Option.bind_some, if_pos rfl, ramount_t (show amt w from ⟨hw, by omega⟩), Option.bind_some, if_pos rfl, ramount_t (show amt s from ⟨by omega, hs⟩), Option.bind_some, if_pos rfl, if_neg (by omega), if_neg (by omega), RDiv_eq v w s false (by unfold In64; omega) (by unfold In64; omega) hs0 (by omega) k hk]
 have e : divS v w s false = v * w / s := by unfold divS; simp
 have p0 : 0 ≤ v * w / s := Int.ediv_nonneg (Int.mul_nonneg h0.1 hw) (by omega)
 have p1 := part_le h0.1 hws hs0
 rw [e, if_pos (by unfold In64; omega), Option.bind_some]
theorem RFloor_bad (v w s : Int) (h : ¬ (amt v ∧ amt w ∧ amt s ∧ w ≤ s ∧ s ≠ 0)) (k : Nat) : pledgeref10_Floor.f k v w s = some (0, 103) := by
 unfold pledgeref10_Floor.f
 by_cases h1 : amt v
 ·
  rw [ramount_t h1, Option.bind_some, if_pos rfl]
  by_cases h2 : amt w
  ·
   rw [ramount_t h2, Option.bind_some, if_pos rfl]
   by_cases h3 : amt s
   ·
    rw [ramount_t h3, Option.bind_some, if_pos rfl]
    by_cases h4 : w > s
    · rw [if_pos h4]
    · rw [if_neg h4, if_pos (Decidable.byContradiction fun h5 => h ⟨h1, h2, h3, by omega, h5⟩)]
   · rw [ramount_f h3, Option.bind_some, if_neg (by simp)]
  · rw [ramount_f h2, Option.bind_some, if_neg (by simp)]
 · rw [ramount_f h1, Option.bind_some, if_neg (by simp)]
theorem rover_eq (v w s : Int) (hv : amt v) (hw : 0 ≤ w) (hws : w ≤ s) (hs0 : 0 < s) (hs : s ≤ 1000000000000000) : pledgeref10_over.f v w (v * w / s) s = some (v * w % s) := by
 have h0 := hv
 unfold amt at h0
 have p0 : 0 ≤ v * w / s := Int.ediv_nonneg (Int.mul_nonneg h0.1 hw) (by omega)
 have p1 := part_le h0.1 hws hs0
 have hm := Int.emod_add_mul_ediv (v * w) s
 have r0 := Int.emod_nonneg (v * w) (show s ≠ 0 by omega)
 have r1 := Int.emod_lt_of_pos (v * w) hs0
 unfold pledgeref10_over.f
 simp only [wu64]
 rw [show v % 18446744073709551616 = v by omega, show w % 18446744073709551616 = w by omega, show s % 18446744073709551616 = s by omega, show v * w / s % 18446744073709551616 = v * w / s by omega]
 have hc : v * w / s * s = s * (v * w / s) := Int.mul_comm _ _
 rw [hc]
 generalize v * w = X at *
 generalize X % s = r at *
 generalize s * (X / s) = Y at *
 have e : (X % 18446744073709551616 - Y % 18446744073709551616) % 18446744073709551616 = r := by omega
 rw [e, w64 r (by omega) (by omega)]
theorem rs0_go (v s : Int) (ws : List Int) (hl : ws.length ≤ 40) : ∀ (d i K : Nat) (b : Bool), i + d = ws.length →
  pledgeref10_Split.l0 (K + 1 + d) v ws s b (i : Int) = if (b && (ws.drop i).all amtB) = true then pledgeref10_Split.l1 K v ws s 0 else some ([], 103)
 | 0, i, K, b, hi => by
  rw [show K + 1 + 0 = K + 1 from rfl, List.drop_of_length_le (by omega)]
  simp only [pledgeref10_Split.l0]
  rw [if_neg (by omega)]
  cases b <;> rfl
 | d + 1, i, K, b, hi => by
  have ih := fun b => rs0_go v s ws hl d (i + 1) K b (by omega)
  rw [show K + 1 + (d + 1) = (K + 1 + d) + 1 from rfl]
  have hw : wrap64 ((i : Int) + 1) = ((i + 1 : Nat) : Int) := by rw [w64s _ (by omega) (by omega)]; omega
  have hd : (ws.drop i).all amtB = (amtB (rd ws (i : Int)) && (ws.drop (i + 1)).all amtB) := by
   rw [List.drop_eq_getElem_cons (show i < ws.length by omega), List.all_cons, rd_nat, List.getD_eq_getElem?_getD, List.getElem?_eq_getElem (by omega)]; rfl
  generalize K + 1 + d = Q at *
  simp only [pledgeref10_Split.l0]
  rw [if_pos (by omega), hw, hd]
  cases b with
  | true => rw [if_pos rfl, if_pos (by omega), ramount_b, Option.bind_some, ih, Bool.true_and]
  | false => rw [if_neg (by simp), ih]; rfl
theorem rs1_go (v : Int) (ws : List Int) (hl : ws.length ≤ 32) (hw : ∀ x ∈ ws, amt x) (hs : ws.sum ≤ 32000000000000000) : ∀ (d i K : Nat), i + d = ws.length →
  pledgeref10_Split.l1 (K + 1 + d) v ws ((ws.take i).sum) (i : Int) = pledgeref10_Split.l1 (K + 1) v ws ws.sum (ws.length : Int)
 | 0, i, K, hi => by
  obtain rfl : i = ws.length := by omega
  rw [List.take_of_length_le (by omega), Nat.add_zero]
 | d + 1, i, K, hi => by
  have ih := rs1_go v ws hl hw hs d (i + 1) K (by omega)
  obtain ⟨R, hR⟩ : ∃ R, R = pledgeref10_Split.l1 (K + 1) v ws ws.sum (ws.length : Int) := ⟨_, rfl⟩
  rw [← hR] at ih ⊢
  rw [show K + 1 + (d + 1) = (K + 1 + d) + 1 from rfl]
  have hwr : wrap64 ((i : Int) + 1) = ((i + 1 : Nat) : Int) := by rw [w64s _ (by omega) (by omega)]; omega
  have t1 := take_sum_le ws (fun x hx => (hw x hx).1) (i + 1)
  have t2 := sum_nonneg (ws.take (i + 1)) (fun x hx => (hw x (List.mem_of_mem_take hx)).1)
  have e1 : wrap64 ((ws.take i).sum + rd ws (i : Int)) = (ws.take (i + 1)).sum := by
   rw [take_snoc_sum ws i (by omega)] at t1 t2 ⊢
   rw [w64 _ (by omega) (by omega)]
  generalize K + 1 + d = Q at *
  simp only [pledgeref10_Split.l1]
  rw [if_pos (by omega), if_pos (by omega), hwr, e1]
  exact ih
theorem rs2_go {v : Int} {ws : List Int} (h : OkW v ws) : ∀ (d i K : Nat), i + d = ws.length → 500 < K →
  pledgeref10_Split.l2 (K + 1 + d) v ws ws.sum ((fls v ws.sum ws).take i ++ List.replicate (ws.length - i) 0) (v - ((fls v ws.sum ws).take i).sum) (i : Int) = pledgeref10_Split.l2 (K + 1) v ws ws.sum (fls v ws.sum ws) (v - (fls v ws.sum ws).sum) (ws.length : Int)
 | 0, i, K, hi, hK => by
  obtain rfl : i = ws.length := by omega
  rw [Nat.sub_self, List.replicate_zero, List.append_nil, List.take_of_length_le (by rw [fls_len]; omega), Nat.add_zero]
 | d + 1, i, K, hi, hK => by
  have ih := rs2_go h d (i + 1) K (by omega) hK
  obtain ⟨R, hR⟩ : ∃ R, R = pledgeref10_Split.l2 (K + 1) v ws ws.sum (fls v ws.sum ws) (v - (fls v ws.sum ws).sum) (ws.length : Int) := ⟨_, rfl⟩
  rw [← hR] at ih ⊢
  rw [show K + 1 + (d + 1) = (K + 1 + d) + 1 from rfl]
  have hlen := h.len
  have hi' : i < ws.length := by omega
  have hwr : wrap64 ((i : Int) + 1) = ((i + 1 : Nat) : Int) := by rw [w64s _ (by omega) (by omega)]; omega
  have hw := h.each _ (rd_mem ws i hi')
  have hle := mem_le_sum ws (fun x hx => (h.each x hx).1) _ (rd_mem ws i hi')
  have hf : rd (fls v ws.sum ws) (i : Int) = v * rd ws (i : Int) / ws.sum := rd_map _ ws i hi'
  have hl : wrap64 (v - ((fls v ws.sum ws).take i).sum - v * rd ws (i : Int) / ws.sum) = v - ((fls v ws.sum ws).take (i + 1)).sum := by
   rw [take_snoc_sum _ i (by rw [fls_len]; exact hi'), hf]
   have h1 := sum_nonneg ((fls v ws.sum ws).take (i + 1)) (fun x hx => h.fl_nonneg x (List.mem_of_mem_take hx))
   have h2 := take_sum_le _ h.fl_nonneg (i + 1)
   rw [take_snoc_sum _ i (by rw [fls_len]; exact hi'), hf] at h1 h2
   have h3 := h.left.1
   have h4 := h.whole
   unfold amt at h4
   rw [w64 _ (by omega) (by omega)]
   omega
  have hset := set_mid _ ws.length i hi' (by rw [fls_len]; exact hi') _ hf
  have hpl : ((fls v ws.sum ws).take i ++ List.replicate (ws.length - i) (0 : Int)).length = ws.length := by
   rw [List.length_append, List.length_take, fls_len, List.length_replicate]; omega
  have hrd : rd (((fls v ws.sum ws).take i ++ List.replicate (ws.length - i) (0 : Int)).set i (v * rd ws (i : Int) / ws.sum)) (i : Int) = v * rd ws (i : Int) / ws.sum := by
   rw [rd_set' _ i i _ (by omega), if_pos rfl]
  have hfl := RFloor_eq v _ ws.sum h.whole hw.1 hle h.some_ h.sum (K + 1 + d) (by omega)
  generalize K + 1 + d = Q at *
  simp only [pledgeref10_Split.l2]
  rw [if_pos (by omega), if_pos (by omega), hfl, Option.bind_some, if_pos (by omega), Option.bind_some]
  simp only [Int.toNat_natCast]
  rw [hrd, hset, hl, hwr]
  exact ih
/-- The place that is come to among the first i. -/
def Bst (q o : List Int) (j : Nat) (at_ : Int) (i : Nat) : Prop :=
 (at_ = -1 ∧ ∀ p : Nat, p < i → (p : Int) ∈ o.take j) ∨ ∃ a : Nat, at_ = (a : Int) ∧ a < i ∧ (a : Int) ∉ o.take j ∧ ∀ p : Nat, p < i → (p : Int) ∉ o.take j → p = a ∨ tq q (a : Int) (p : Int)
theorem rs4_go {v : Int} {ws : List Int} (h : OkW v ws) (o : List Int) (j : Nat) (left : Int) (x : List Int) (g : List Bool) (hx : x.length = ws.length) (hg : g.length = ws.length)
  (hgv : ∀ i : Nat, i < ws.length → rdOf false g (i : Int) = decide ((i : Int) ∈ o.take j)) (hxv : ∀ i : Nat, i < ws.length → (i : Int) ∉ o.take j → rd x (i : Int) = v * rd ws (i : Int) / ws.sum) : ∀ (d i K : Nat) (at_ : Int), i + d = ws.length → Bst (rss v ws.sum ws) o j at_ i →
  ∃ a, Bst (rss v ws.sum ws) o j a ws.length ∧ pledgeref10_Split.l4 (K + 1 + d) v ws ws.sum x left g at_ (i : Int) = pledgeref10_Split.l4 (K + 1) v ws ws.sum x left g a (ws.length : Int)
 | 0, i, K, at_, hi, hb => by
  obtain rfl : i = ws.length := by omega
  exact ⟨at_, hb, rfl⟩
 | d + 1, i, K, at_, hi, hb => by
  have hlen := h.len
  have hi' : i < ws.length := by omega
  have ih := fun a => rs4_go h o j left x g hx hg hgv hxv d (i + 1) K a (by omega)
  rw [show K + 1 + (d + 1) = (K + 1 + d) + 1 from rfl]
  have hwr : wrap64 ((i : Int) + 1) = ((i + 1 : Nat) : Int) := by rw [w64s _ (by omega) (by omega)]; omega
  have hq : ∀ p : Nat, p < ws.length → rd (rss v ws.sum ws) (p : Int) = v * rd ws (p : Int) % ws.sum := fun p hp => rd_map _ ws p hp
  have hov : ∀ p : Nat, p < ws.length → (p : Int) ∉ o.take j → pledgeref10_over.f v (rd ws (p : Int)) (rd x (p : Int)) ws.sum = some (rd (rss v ws.sum ws) (p : Int)) := fun p hp hn => by
   rw [hxv p hp hn, hq p hp]
   exact rover_eq v _ ws.sum h.whole (h.each _ (rd_mem ws p hp)).1 (mem_le_sum ws (fun x hx => (h.each x hx).1) _ (rd_mem ws p hp)) h.some_ h.sum
  generalize rss v ws.sum ws = q at *
  by_cases c : (i : Int) ∈ o.take j
  ·
   obtain ⟨a, h1, h2⟩ := ih at_ (by
    rcases hb with ⟨e, hb⟩ | ⟨a, e, e2, e3, hb⟩
    ·
     exact Or.inl ⟨e, fun p hp => by
      by_cases cp : p < i
      · exact hb p cp
      · rw [show p = i by omega]; exact c⟩
    ·
     exact Or.inr ⟨a, e, by omega, e3, fun p hp hn => by
      by_cases cp : p < i
      · exact hb p cp hn
      · rw [show p = i by omega] at hn; exact absurd c hn⟩)
   refine ⟨a, h1, ?_⟩
   rw [← h2]
   generalize K + 1 + d = Q at *
   simp only [pledgeref10_Split.l4]
   rw [if_pos (by omega), if_pos (by omega), if_pos (by omega), hgv i hi', decide_eq_true c, if_pos rfl, hwr]
  ·
   have hgf : rdOf false g (i : Int) = false := by rw [hgv i hi', decide_eq_false c]
   rcases hb with ⟨e, hb⟩ | ⟨a, e, e2, e3, hb⟩
   ·
    obtain ⟨a, h1, h2⟩ := ih (i : Int) (Or.inr ⟨i, rfl, by omega, c, fun p hp hn => by
      by_cases cp : p < i
      · exact absurd (hb p cp) hn
      · left; omega⟩)
    refine ⟨a, h1, ?_⟩
    rw [← h2]
    generalize K + 1 + d = Q at *
    simp only [pledgeref10_Split.l4]
    rw [if_pos (by omega), if_pos (by omega), if_pos (by omega), hgf, if_neg (by simp), if_pos (by omega), hwr]
   ·
    subst e
    have hab : pledgeref10_above.f v (rd ws (i : Int)) (rd x (i : Int)) ws.sum (rd ws (a : Int)) (rd x (a : Int)) = some (decide (rd q (i : Int) > rd q (a : Int))) := by
     unfold pledgeref10_above.f
     rw [hov i hi' c, Option.bind_some, hov a (by omega) e3, Option.bind_some]
    by_cases c2 : rd q (i : Int) > rd q (a : Int)
    ·
     obtain ⟨b, h1, h2⟩ := ih (i : Int) (Or.inr ⟨i, rfl, by omega, c, fun p hp hn => by
      by_cases cp : p < i
      ·
       right
       have hia : tq q (i : Int) (a : Int) := Or.inl c2
       rcases hb p cp hn with rfl | ht
       · exact hia
       · exact tq_trans q _ _ _ hia ht
      · left; omega⟩)
     refine ⟨b, h1, ?_⟩
     rw [← h2]
     generalize K + 1 + d = Q at *
     simp only [pledgeref10_Split.l4]
     rw [if_pos (by omega), if_pos (by omega), if_pos (by omega), hgf, if_neg (by simp), if_neg (by omega), if_pos (by omega), if_pos (by omega), if_pos (by omega), if_pos (by omega), hab, Option.bind_some, decide_eq_true c2, if_pos rfl, hwr]
    ·
     obtain ⟨b, h1, h2⟩ := ih (a : Int) (Or.inr ⟨a, rfl, by omega, e3, fun p hp hn => by
      by_cases cp : p < i
      · exact hb p cp hn
      ·
       right
       rw [show p = i by omega]
       unfold tq
       omega⟩)
     refine ⟨b, h1, ?_⟩
     rw [← h2]
     generalize K + 1 + d = Q at *
     simp only [pledgeref10_Split.l4]
     rw [if_pos (by omega), if_pos (by omega), if_pos (by omega), hgf, if_neg (by simp), if_neg (by omega), if_pos (by omega), if_pos (by omega), if_pos (by omega), if_pos (by omega), hab, Option.bind_some, decide_eq_false c2, if_neg (by simp), hwr]
theorem bst_is {q : List Int} (hq : ∀ x ∈ q, In64 x) (hp : 0 < q.length) {j : Nat} (hj : j < q.length) {a : Int} (h : Bst q (spO q) j a q.length) : a = rd (spO q) (j : Int) := by
 have ho : (spO q).length = q.length := spO_len q
 have hs := spO_srt q hq hp
 have hn := spO_nodup q
 have hj' : j < (spO q).length := by omega
 have hm := spO_mem q _ (rd_mem (spO q) j hj')
 obtain ⟨b, hb⟩ : ∃ b : Nat, rd (spO q) (j : Int) = (b : Int) := ⟨(rd (spO q) (j : Int)).toNat, by omega⟩
 have hoj : (spO q)[j] = (b : Int) := by
  rw [rd_nat, List.getD_eq_getElem?_getD, List.getElem?_eq_getElem hj'] at hb; exact hb
 have hdr : (spO q).drop j = (b : Int) :: (spO q).drop (j + 1) := by rw [List.drop_eq_getElem_cons hj', hoj]
 have hbn : (b : Int) ∉ (spO q).take j := fun c => by
  rw [← List.take_append_drop j (spO q), hdr] at hn
  exact (List.nodup_append.1 hn).2.2 _ c _ (List.mem_cons_self ..) rfl
 rw [hb]
 have hbl : b < q.length := by omega
 rcases h with ⟨_, h⟩ | ⟨a', e, e2, e3, h⟩
 · exact absurd (h b hbl) hbn
 ·
  subst e
  rcases h b hbl hbn with h | h
  · rw [h]
  ·
   exfalso
   have ha : (a' : Int) ∈ spO q := (spO_perm q).mem_iff.2 (by unfold ixs; exact List.mem_map.2 ⟨a', List.mem_range.2 e2, rfl⟩)
   rw [← List.take_append_drop j (spO q), hdr] at ha
   rcases List.mem_append.1 ha with c | c
   · exact e3 c
   ·
    rcases List.mem_cons.1 c with c | c
    · rw [c] at h; exact tq_asy q _ _ h h
    ·
     rw [← List.take_append_drop j (spO q), hdr] at hs
     exact tq_asy q _ _ h ((List.pairwise_cons.1 (List.pairwise_append.1 hs).2.1).1 _ c)
theorem rdOf_set (g : List Bool) (i j : Nat) (v : Bool) (hi : i < g.length) : rdOf false (g.set i v) (j : Int) = if j = i then v else rdOf false g (j : Int) := by
 unfold rdOf
 simp only [Int.toNat_natCast]
 rw [List.getD_eq_getElem?_getD, List.getD_eq_getElem?_getD, List.getElem?_set]
 by_cases h : i = j
 · subst h; rw [if_pos rfl, if_pos rfl, if_pos hi]; rfl
 · rw [if_neg h, if_neg (fun e => h e.symm)]
theorem rs3_go {v : Int} {ws : List Int} (h : OkW v ws) : ∀ (d j K : Nat) (x : List Int) (g : List Bool), j + d < ws.length → 34 * d + 40 < K → x.length = ws.length → g.length = ws.length →
  (∀ i : Nat, i < ws.length → rdOf false g (i : Int) = decide ((i : Int) ∈ (spO (rss v ws.sum ws)).take j)) → (∀ i : Nat, i < ws.length → (i : Int) ∉ (spO (rss v ws.sum ws)).take j → rd x (i : Int) = v * rd ws (i : Int) / ws.sum) →
  pledgeref10_Split.l3 K v ws ws.sum x (d : Int) g = some (incL (spO (rss v ws.sum ws)) d j x, 0)
 | 0, j, K, x, g, hj, hK, hx, hg, hgv, hxv => by
  obtain ⟨K, rfl⟩ : ∃ m, K = m + 1 := ⟨K - 1, by omega⟩
  simp only [pledgeref10_Split.l3]
  rw [if_neg (by omega)]; rfl
 | d + 1, j, K, x, g, hj, hK, hx, hg, hgv, hxv => by
  have hlen := h.len
  have hql : (rss v ws.sum ws).length = ws.length := rss_len _ _ _
  obtain ⟨K, rfl⟩ : ∃ m, K = m + 1 := ⟨K - 1, by omega⟩
  obtain ⟨K, rfl⟩ : ∃ m, K = m + 1 + ws.length := ⟨K - ws.length - 1, by omega⟩
  obtain ⟨a, hb, e⟩ := rs4_go h (spO (rss v ws.sum ws)) j ((d + 1 : Nat) : Int) x g hx hg hgv hxv ws.length 0 K (-1) (by omega) (Or.inl ⟨rfl, fun p hp => absurd hp (by omega)⟩)
  rw [← hql] at hb
  have ha := bst_is h.rs64 (by rw [hql]; exact h.pos) (by omega) hb
  have hol := spO_len (rss v ws.sum ws)
  have hom := spO_mem (rss v ws.sum ws) _ (rd_mem (spO (rss v ws.sum ws)) j (by omega))
  rw [← ha] at hom
  obtain ⟨b, rfl⟩ : ∃ b : Nat, a = (b : Int) := ⟨a.toNat, by omega⟩
  have hoj : (spO (rss v ws.sum ws))[j]'(by omega) = (b : Int) := by
   rw [rd_nat, List.getD_eq_getElem?_getD, List.getElem?_eq_getElem (by omega)] at ha; exact ha.symm
  have htk : (spO (rss v ws.sum ws)).take (j + 1) = (spO (rss v ws.sum ws)).take j ++ [(b : Int)] := by
   rw [List.take_succ_eq_append_getElem (by omega), hoj]
  have hmem : ∀ i : Nat, ((i : Int) ∈ (spO (rss v ws.sum ws)).take (j + 1)) ↔ ((i : Int) ∈ (spO (rss v ws.sum ws)).take j ∨ i = b) := fun i => by
   rw [htk, List.mem_append, List.mem_singleton]
   constructor
   ·
    rintro (c | c)
    · exact Or.inl c
    · exact Or.inr (by omega)
   ·
    rintro (c | c)
    · exact Or.inl c
    · exact Or.inr (by rw [c])
  have hbl : b < ws.length := by omega
  have ih := rs3_go h d (j + 1) K (x.set b (wrap64 (rd x (b : Int) + 1))) (g.set b true) (by omega) (by omega) (by rw [List.length_set]; exact hx) (by rw [List.length_set]; exact hg)
   (fun i hi => by
    rw [rdOf_set g b i true (by omega)]
    by_cases c : i = b
    · rw [if_pos c, decide_eq_true ((hmem i).2 (Or.inr c))]
    ·
     rw [if_neg c, hgv i hi]
     by_cases c2 : (i : Int) ∈ (spO (rss v ws.sum ws)).take j
     · rw [decide_eq_true c2, decide_eq_true ((hmem i).2 (Or.inl c2))]
     · rw [decide_eq_false c2, decide_eq_false (fun c3 => by rcases (hmem i).1 c3 with c4 | c4; exact c2 c4; exact c c4)])
   (fun i hi hn => by
    have hne : i ≠ b := fun c => hn ((hmem i).2 (Or.inr c))
    rw [rd_set' x b i _ (by omega), if_neg hne]
    exact hxv i hi (fun c => hn ((hmem i).2 (Or.inl c))))
  have hinc : incL (spO (rss v ws.sum ws)) (d + 1) j x = incL (spO (rss v ws.sum ws)) d (j + 1) (x.set b (wrap64 (rd x (b : Int) + 1))) := by
   simp only [incL]
   rw [← ha, Int.toNat_natCast]
  rw [hinc, ← ih]
  rw [show ((0 : Nat) : Int) = 0 from rfl] at e
  have e3 : pledgeref10_Split.l4 (K + 1) v ws ws.sum x ((d + 1 : Nat) : Int) g (b : Int) (ws.length : Int) = pledgeref10_Split.l3 K v ws ws.sum (x.set b (wrap64 (rd x (b : Int) + 1))) (d : Int) (g.set b true) := by
   simp only [pledgeref10_Split.l4]
   rw [if_neg (by omega), if_pos (by omega), if_pos (by omega), if_pos (by omega), Int.toNat_natCast, show wrap64 (((d + 1 : Nat) : Int) - 1) = (d : Int) by rw [w64s _ (by omega) (by omega)]; omega]
  rw [← e3, ← e]
  generalize K + 1 + ws.length = Q at *
  simp only [pledgeref10_Split.l3]
  rw [if_pos (by omega)]
/-- Both answer alike, whatever they are given. -/
theorem split_both (v : Int) (ws : List Int) (k : Nat) (hk : 4000 < k) : ∃ r e c, share_Split.f v ws = some (r, e) ∧ pledgeref10_Split.f k v ws = some (r, c) ∧ r.length ≤ 32 ∧ pledgesee_Is.f e c = some true := by
 by_cases h32 : 32 < ws.length
 ·
  refine ⟨[], some 105, 105, by unfold share_Split.f; rw [if_pos h32], ?_, by simp, by rw [Is_some 105 105 (by omega) (by omega)]; rfl⟩
  unfold pledgeref10_Split.f
  rw [if_pos (by omega)]
 have hpf : pledgeref10_Split.f k v ws = if (amtB v && ws.all amtB) = true then pledgeref10_Split.l1 (k - ws.length - 1) v ws 0 0 else some ([], 103) := by
  obtain ⟨k, rfl⟩ : ∃ m, k = m + 1 + ws.length := ⟨k - ws.length - 1, by omega⟩
  have h0 := rs0_go v 0 ws (by omega) ws.length 0 k (amtB v) (by omega)
  rw [List.drop_zero, show ((0 : Nat) : Int) = 0 from rfl] at h0
  unfold pledgeref10_Split.f
  rw [if_neg (by omega), ramount_b, Option.bind_some, h0, show k + 1 + ws.length - ws.length - 1 = k by omega]
 by_cases hv : amt v
 rotate_left
 ·
  refine ⟨[], some 103, 103, by unfold share_Split.f; rw [if_neg h32, if_pos (amtB_f hv)], ?_, by simp, by rw [Is_some 103 103 (by omega) (by omega)]; rfl⟩
  rw [hpf, amtB_f hv, if_neg (by simp)]
 by_cases hw : ∀ x ∈ ws, amt x
 rotate_left
 ·
  have hall : ws.all amtB = false := by
   apply Bool.eq_false_iff.2
   intro c
   refine hw fun x hx => ?_
   have := List.all_eq_true.1 c x hx
   apply Classical.byContradiction
   intro hx2
   rw [amtB_f hx2] at this
   exact absurd this (by simp)
  have ha : (ws.any fun n => !amtB n) = true := by
   apply Decidable.byContradiction
   intro hn
   refine hw fun x hx => ?_
   apply Classical.byContradiction
   intro hx2
   exact hn (List.any_eq_true.2 ⟨x, hx, by rw [amtB_f hx2]; rfl⟩)
  refine ⟨[], some 103, 103, ?_, ?_, by simp, by rw [Is_some 103 103 (by omega) (by omega)]; rfl⟩
  ·
   unfold share_Split.f
   rw [if_neg h32, if_neg (by rw [amtB_t hv]; simp), if_pos ha]
  · rw [hpf, hall, Bool.and_false, if_neg (by simp)]
 have hall : ws.all amtB = true := List.all_eq_true.2 fun x hx => amtB_t (hw x hx)
 have hn0 := sum_nonneg ws (fun x hx => (hw x hx).1)
 have hn1 := sum_le 1000000000000000 (by omega) ws (fun x hx => (hw x hx).2)
 have hsf : share_Split.f v ws = (if ws.sum > 1000000000000000 then some ([], some 104) else if ws.sum = 0 then (if v > 0 then some ([], some 106) else some (List.replicate ws.length 0, none)) else share_Split.f v ws) := by
  by_cases c : ws.sum > 1000000000000000
  ·
   rw [if_pos c]
   unfold share_Split.f
   rw [if_neg h32, if_neg (by rw [amtB_t hv]; simp), if_neg (by rw [any_amt ws hw]; simp), fix_Sum_eq ws (by omega) (sum_rng hw) spF (by have := spF_big; omega), if_pos (by omega), Option.bind_some]
   simp only []
   rw [if_neg (by simp), if_pos c]
  ·
   rw [if_neg c]
   by_cases c0 : ws.sum = 0
   ·
    rw [if_pos c0]
    unfold share_Split.f
    rw [if_neg h32, if_neg (by rw [amtB_t hv]; simp), if_neg (by rw [any_amt ws hw]; simp), fix_Sum_eq ws (by omega) (sum_rng hw) spF (by have := spF_big; omega), if_pos (by omega), Option.bind_some]
    simp only []
    rw [if_neg (by simp), if_neg c, if_pos c0]
   · rw [if_neg c0]
 rw [amtB_t hv, hall, Bool.true_and, if_pos rfl] at hpf
 obtain ⟨K, hKe⟩ : ∃ K, k - ws.length - 1 = K + 1 + ws.length := ⟨k - ws.length - 1 - 1 - ws.length, by omega⟩
 have h1 := rs1_go v ws (by omega) hw (by omega) ws.length 0 K (by omega)
 rw [List.take_zero, List.sum_nil, show ((0 : Nat) : Int) = 0 from rfl] at h1
 rw [hKe, h1] at hpf
 have hKb : 3900 < K := by omega
 clear h1 hKe
 obtain ⟨K, rfl⟩ : ∃ m, K = m + 1 := ⟨K - 1, by omega⟩
 simp only [pledgeref10_Split.l1] at hpf
 rw [if_neg (by omega)] at hpf
 by_cases c : ws.sum > 1000000000000000
 ·
  rw [if_pos c] at hsf hpf
  exact ⟨[], some 104, 104, hsf, hpf, by simp, by rw [Is_some 104 104 (by omega) (by omega)]; rfl⟩
 rw [if_neg c] at hsf hpf
 have hv' := hv
 unfold amt at hv'
 have hj2 : ∀ (s : Int), pledgeref10_Split.j2 (K + 1) v ws s false = if s = 0 then some (List.replicate ws.length 0, 0) else pledgeref10_Split.l2 K v ws s (List.replicate ws.length 0) v 0 := fun s => by
  simp only [pledgeref10_Split.j2]
  rw [if_neg (by simp), if_pos (by omega), if_pos (by omega), Option.bind_some, Int.toNat_natCast]
 by_cases c0 : ws.sum = 0
 ·
  rw [if_pos c0] at hsf hpf
  by_cases cv : v > 0
  ·
   rw [if_pos cv] at hsf
   refine ⟨[], some 106, 106, hsf, ?_, by simp, by rw [Is_some 106 106 (by omega) (by omega)]; rfl⟩
   rw [hpf, show (v != 0) = true by rw [bne_iff_ne]; omega]
   simp only [pledgeref10_Split.j2]
   rw [if_pos trivial]
  ·
   rw [if_neg cv] at hsf
   refine ⟨_, none, 0, hsf, ?_, by rw [List.length_replicate]; omega, by rw [Is_none]; rfl⟩
   rw [hpf, show (v != 0) = false by rw [show v = 0 by omega]; rfl, hj2, if_pos c0]
 ·
  rw [if_neg c0, hj2, if_neg c0] at hpf
  have h : OkW v ws := by
   refine ⟨hv, ?_, by omega, hw, by omega, by omega⟩
   cases ws with
   | nil => simp at c0
   | cons a l => simp
  refine ⟨_, none, 0, Split_ok h, ?_, by rw [incL_len, fls_len]; omega, by rw [Is_none]; rfl⟩
  rw [hpf]
  obtain ⟨K, rfl⟩ : ∃ m, K = m + 1 + ws.length := ⟨K - ws.length - 1, by omega⟩
  have h2 := rs2_go h ws.length 0 K (by omega) (by omega)
  rw [List.take_zero, List.nil_append, Nat.sub_zero, List.sum_nil, Int.sub_zero, show ((0 : Nat) : Int) = 0 from rfl] at h2
  rw [h2]
  have hl := h.left
  obtain ⟨d, hd⟩ : ∃ d : Nat, v - (fls v ws.sum ws).sum = (d : Int) := ⟨(v - (fls v ws.sum ws).sum).toNat, by omega⟩
  rw [hd] at hl ⊢
  rw [Int.toNat_natCast]
  have h3 := rs3_go h d 0 K (fls v ws.sum ws) (List.replicate ws.length false) (by omega) (by omega) (fls_len _ _ _) (List.length_replicate ..) (fun i hi => by
   rw [List.take_zero, decide_eq_false (by simp)]
   unfold rdOf
   rw [Int.toNat_natCast, List.getD_eq_getElem?_getD, List.getElem?_replicate, if_pos hi]; rfl) (fun i hi _ => rd_map _ ws i hi)
  rw [← h3]
  simp only [pledgeref10_Split.l2]
  rw [if_neg (by omega), if_pos (by omega), if_pos (by omega), Int.toNat_natCast]
theorem floor_both (v w s : Int) (k : Nat) (hk : 401 < k) : ∃ r e c, share_Floor.f k v w s = some (r, e) ∧ pledgeref10_Floor.f k v w s = some (r, c) ∧ pledgesee_Is.f e c = some true := by
 by_cases h : amt v ∧ amt w ∧ amt s ∧ w ≤ s ∧ s ≠ 0
 ·
  obtain ⟨h1, h2, h3, h4, h5⟩ := h
  unfold amt at h2 h3
  exact ⟨_, none, 0, Floor_eq v w s h1 h2.1 h4 (by omega) h3.2 k (by omega), RFloor_eq v w s h1 h2.1 h4 (by omega) h3.2 k hk, by rw [Is_none]; rfl⟩
 · exact ⟨0, some 103, 103, Floor_bad v w s h k, RFloor_bad v w s h k, by rw [Is_some 103 103 (by omega) (by omega)]; rfl⟩
end Go.Proofs.YtdmhmncplcokiaaDoor.PrShareSays
namespace Go.Proofs.YtdmhmncplcokiaaDoor.Pr
open Go.RowKit Go.Proofs.YtdmhmncplcokiaaDoor.EShareSays Go.Proofs.YtdmhmncplcokiaaDoorW.PrintWords Go.Proofs.YtdmhmncplcokiaaDoorW.PrintLast Go.Proofs.YtdmhmncplcokiaaDoorW.PrintMore Go.Proofs.YtdmhmncplcokiaaDoorW.PrintOpen Go.Proofs.YtdmhmncplcokiaaDoor.PrShareSays
theorem ShareSays : pledgelaw23_ShareSays.Pure := by
 intro v ws w s _ _ _ _ _
 obtain ⟨K, hK⟩ : ∃ K : Nat, 5000 < K := ⟨5001, by omega⟩
 refine ⟨K, ?_⟩
 unfold pledgelaw23_ShareSays.f
 rw [first23 K (by omega), Option.bind_some, if_pos rfl]
 obtain ⟨K, rfl⟩ : ∃ m, K = m + 1 := ⟨K - 1, by omega⟩
 by_cases c : (ws.length : Int) > 40
 ·
  rw [if_pos c]
  simp only [pledgelaw23_ShareSays.j0]
  rw [if_pos trivial]
 ·
  rw [if_neg c]
  obtain ⟨r, e, b, h1, h2, h3, h4⟩ := split_both v ws K (by omega)
  obtain ⟨r', e', b', g1, g2, g3⟩ := floor_both v w s K (by omega)
  have hs := SameL_self r (by omega) K (by omega)
  simp only [pledgelaw23_ShareSays.j0]
  rw [if_neg (by simp), h1, Option.bind_some, h2, Option.bind_some, g1, Option.bind_some, g2, Option.bind_some, hs, Option.bind_some, if_pos rfl, h4, Option.bind_some, if_pos rfl, if_pos rfl, g3, Option.bind_some]
end Go.Proofs.YtdmhmncplcokiaaDoor.Pr
