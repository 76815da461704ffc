/- The fund is never below its floor, nor above its cap; between them it covers; its shares are all of it: the pure statement of FundSizes, for all rows. Conditions: none beyond the statement's own. -/
import Derived.Test.YtcmdhgcaldpioaaDoorEFundSizesx
import Derived.Test.YtcmdhgcaldpioaaDoorOpen
namespace Go.Proofs.YtcmdhgcaldpioaaDoor.PrFundSizes
open Go.RowKit Go.Proofs.YtcmdhgcaldpioaaDoor.EFundSizes Go.Proofs.YtcmdhgcaldpioaaDoorW.PrintWords Go.Proofs.YtcmdhgcaldpioaaDoorW.PrintLast Go.Proofs.YtcmdhgcaldpioaaDoorW.PrintMore Go.Proofs.YtcmdhgcaldpioaaDoorW.PrintOpen
set_option linter.unusedSimpArgs false
set_option linter.unusedVariables false
theorem w64 (x : Int) (h1 : -9223372036854775808 ≤ x) (h2 : x ≤ 9223372036854775807) : wrap64 x = x := by unfold wrap64; omega
theorem w64s (x : Int) (h1 : -1000000000 ≤ x) (h2 : x ≤ 1000000000) : wrap64 x = x := by unfold wrap64; omega
theorem wu64 (n : Int) : IntKind.u64.wrap n = n % 18446744073709551616 := by simp [IntKind.wrap, IntKind.bits, IntKind.signed]
theorem rd_nat (l : List Int) (i : Nat) : rd l (i : Int) = l.getD i 0 := by unfold rd; rw [Int.toNat_natCast]
theorem rd_mem (l : List Int) (i : Nat) (h : i < l.length) : rd l (i : Int) ∈ l := by
  rw [rd_nat, List.getD_eq_getElem?_getD, List.getElem?_eq_getElem h]; exact List.getElem_mem h
theorem take_snoc_sum (l : List Int) (i : Nat) (h : i < l.length) : (l.take (i + 1)).sum = (l.take i).sum + rd l (i : Int) := by
  rw [List.take_succ_eq_append_getElem h, List.sum_append, rd_nat, List.getD_eq_getElem?_getD, List.getElem?_eq_getElem h]; simp
theorem and32 (x : Int) (h0 : 0 ≤ x) (h1 : x < 18446744073709551616) : Go.bits .and .u64 x 4294967295 = x % 4294967296 := by
  have := bits_mask .u64 64 (by decide) (fun n a b => by rw [wu64]; omega) 32 (by decide) x h0 (by omega)
  simpa using this
theorem pb (x y : Int) (hx : 0 ≤ x) (hx1 : x < 4294967296) (hy : 0 ≤ y) (hy1 : y < 4294967296) : 0 ≤ x * y ∧ x * y ≤ 18446744065119617025 := by
  refine ⟨Int.mul_nonneg hx hy, ?_⟩
  have := Int.mul_le_mul (show x ≤ 4294967295 by omega) (show y ≤ 4294967295 by omega) hy (by omega)
  omega
theorem split32 (a b : Int) : a * b = (a / 4294967296) * (b / 4294967296) * 18446744073709551616 + ((a / 4294967296) * (b % 4294967296) + (a % 4294967296) * (b / 4294967296)) * 4294967296 + (a % 4294967296) * (b % 4294967296) := by
  have h1 : a = (a / 4294967296) * 4294967296 + a % 4294967296 := by omega
  have h2 : b = (b / 4294967296) * 4294967296 + b % 4294967296 := by omega
  generalize a / 4294967296 = a1 at *
  generalize a % 4294967296 = a0 at *
  generalize b / 4294967296 = b1 at *
  generalize b % 4294967296 = b0 at *
  subst h1 h2
  grind
theorem Wide_eq (a b : Int) (ha0 : 0 ≤ a) (ha1 : a < 18446744073709551616) (hb0 : 0 ≤ b) (hb1 : b < 18446744073709551616) :
    fix_Wide.f a b = some (a * b / 18446744073709551616, a * b % 18446744073709551616) := by
  unfold fix_Wide.f
  simp only [wu64, and32 a ha0 ha1, and32 b hb0 hb1]
  have e := split32 a b
  obtain ⟨q1, q2⟩ := pb (a / 4294967296) (b / 4294967296) (by omega) (by omega) (by omega) (by omega)
  obtain ⟨q3, q4⟩ := pb (a / 4294967296) (b % 4294967296) (by omega) (by omega) (by omega) (by omega)
  obtain ⟨q5, q6⟩ := pb (a % 4294967296) (b / 4294967296) (by omega) (by omega) (by omega) (by omega)
  obtain ⟨q7, q8⟩ := pb (a % 4294967296) (b % 4294967296) (by omega) (by omega) (by omega) (by omega)
  generalize a / 4294967296 * (b / 4294967296) = p11 at *
  generalize a / 4294967296 * (b % 4294967296) = p10 at *
  generalize a % 4294967296 * (b / 4294967296) = p01 at *
  generalize a % 4294967296 * (b % 4294967296) = p00 at *
  generalize a * b = p at *
  rw [and32 _ (by omega) (by omega)]
  congr 2
  omega
def lenTab : ByteArray := ⟨#[0, 1, 2, 2, 3, 3, 3, 3, 4, 4, 4, 4, 4, 4, 4, 4, 5, 5, 5, 5, 5, 5, 5, 5, 5, 5, 5, 5, 5, 5, 5, 5, 6, 6, 6, 6, 6, 6, 6, 6, 6, 6, 6, 6, 6, 6, 6, 6, 6, 6, 6, 6, 6, 6, 6, 6, 6, 6, 6, 6, 6, 6, 6, 6, 7, 7, 7, 7, 7, 7, 7, 7, 7, 7, 7, 7, 7, 7, 7, 7, 7, 7, 7, 7, 7, 7, 7, 7, 7, 7, 7, 7, 7, 7, 7, 7, 7, 7, 7, 7, 7, 7, 7, 7, 7, 7, 7, 7, 7, 7, 7, 7, 7, 7, 7, 7, 7, 7, 7, 7, 7, 7, 7, 7, 7, 7, 7, 7, 8, 8, 8, 8, 8, 8, 8, 8, 8, 8, 8, 8, 8, 8, 8, 8, 8, 8, 8, 8, 8, 8, 8, 8, 8, 8, 8, 8, 8, 8, 8, 8, 8, 8, 8, 8, 8, 8, 8, 8, 8, 8, 8, 8, 8, 8, 8, 8, 8, 8, 8, 8, 8, 8, 8, 8, 8, 8, 8, 8, 8, 8, 8, 8, 8, 8, 8, 8, 8, 8, 8, 8, 8, 8, 8, 8, 8, 8, 8, 8, 8, 8, 8, 8, 8, 8, 8, 8, 8, 8, 8, 8, 8, 8, 8, 8, 8, 8, 8, 8, 8, 8, 8, 8, 8, 8, 8, 8, 8, 8, 8, 8, 8, 8, 8, 8, 8, 8, 8, 8, 8, 8, 8, 8, 8, 8, 8, 8]⟩
set_option maxRecDepth 100000 in
theorem lenTab_dec : ∀ j : Fin 256, 0 < (j : Nat) → (bt lenTab (j : Nat) = 1 ∧ 1 ≤ (j : Nat) ∧ (j : Nat) ≤ 1) ∨ (bt lenTab (j : Nat) = 2 ∧ 2 ≤ (j : Nat) ∧ (j : Nat) ≤ 3) ∨ (bt lenTab (j : Nat) = 3 ∧ 4 ≤ (j : Nat) ∧ (j : Nat) ≤ 7) ∨ (bt lenTab (j : Nat) = 4 ∧ 8 ≤ (j : Nat) ∧ (j : Nat) ≤ 15) ∨ (bt lenTab (j : Nat) = 5 ∧ 16 ≤ (j : Nat) ∧ (j : Nat) ≤ 31) ∨ (bt lenTab (j : Nat) = 6 ∧ 32 ≤ (j : Nat) ∧ (j : Nat) ≤ 63) ∨ (bt lenTab (j : Nat) = 7 ∧ 64 ≤ (j : Nat) ∧ (j : Nat) ≤ 127) ∨ (bt lenTab (j : Nat) = 8 ∧ 128 ≤ (j : Nat) ∧ (j : Nat) ≤ 255) := by decide
theorem lenTab_spec (i : Int) (h0 : 0 < i) (h1 : i < 256) : (bt lenTab i = 1 ∧ 1 ≤ i ∧ i ≤ 1) ∨ (bt lenTab i = 2 ∧ 2 ≤ i ∧ i ≤ 3) ∨ (bt lenTab i = 3 ∧ 4 ≤ i ∧ i ≤ 7) ∨ (bt lenTab i = 4 ∧ 8 ≤ i ∧ i ≤ 15) ∨ (bt lenTab i = 5 ∧ 16 ≤ i ∧ i ≤ 31) ∨ (bt lenTab i = 6 ∧ 32 ≤ i ∧ i ≤ 63) ∨ (bt lenTab i = 7 ∧ 64 ≤ i ∧ i ≤ 127) ∨ (bt lenTab i = 8 ∧ 128 ≤ i ∧ i ≤ 255) := by
  obtain ⟨n, rfl⟩ := Int.eq_ofNat_of_zero_le (show 0 ≤ i by omega)
  have := lenTab_dec ⟨n, by omega⟩ (by show 0 < n; omega)
  simp only at this
  omega
theorem wadd (n a t : Int) (n0 : 0 ≤ n) (n1 : n ≤ 32) (a0 : 0 ≤ a) (a1 : a ≤ 24) (t0 : 1 ≤ t) (t1 : t ≤ 8) : wrap64 ((wrap64 (n + a)) + (wrap64 t)) = n + (a + t) := by
  rw [w64 (n + a) (by omega) (by omega), w64 t (by omega) (by omega), w64 _ (by omega) (by omega)]; omega
theorem Len_j0 (k : Nat) (x n : Int) (hx : 0 < x) (hx1 : x < 4294967296) (hn0 : 0 ≤ n) (hn1 : n ≤ 32) :
    ∃ L : Nat, bits_Len64.j0 (k + 1) x n = some (n + L) ∧ 1 ≤ L ∧ L ≤ 32 ∧ (2 : Int) ^ (L - 1) ≤ x ∧ x < (2 : Int) ^ L := by
  have key : ∀ (i a : Int) (b : Nat), 0 < i → i < 256 → a = (b : Int) → b ≤ 24 → x / (2 : Int) ^ b = i →
      ∃ L : Nat, (some (wrap64 ((wrap64 (n + a)) + (wrap64 (bt lenTab i)))) : Option Int) = some (n + L) ∧ 1 ≤ L ∧ L ≤ b + 8 ∧ (2 : Int) ^ (L - 1) ≤ x ∧ x < (2 : Int) ^ L := by
    intro i a b h0 h1 ha hb hi
    have hp : 0 < (2 : Int) ^ b := Int.pow_pos (by decide)
    have e1 : i * (2 : Int) ^ b ≤ x := by rw [← hi]; exact Int.ediv_mul_le _ (by omega)
    have e2 : x < (i + 1) * (2 : Int) ^ b := by rw [← hi]; exact Int.lt_ediv_add_one_mul_self _ hp
    have sp := lenTab_spec i h0 h1
    generalize bt lenTab i = tv at sp ⊢
    have fin : ∀ t : Nat, tv = t → 1 ≤ t → t ≤ 8 → (2 : Int) ^ (t - 1) ≤ i → i + 1 ≤ (2 : Int) ^ t →
        ∃ L : Nat, (some (wrap64 ((wrap64 (n + a)) + (wrap64 tv))) : Option Int) = some (n + L) ∧ 1 ≤ L ∧ L ≤ b + 8 ∧ (2 : Int) ^ (L - 1) ≤ x ∧ x < (2 : Int) ^ L := by
      clear sp
      intro t ht t1 t8 g0 g1
      refine ⟨b + t, ?_, by omega, by omega, ?_, ?_⟩
      · subst ht
        rw [wadd n a t hn0 hn1 (by rw [ha]; exact Int.natCast_nonneg _) (by rw [ha]; exact_mod_cast hb) (by exact_mod_cast t1) (by exact_mod_cast t8), ha]
        rfl
      · rw [show b + t - 1 = (t - 1) + b by omega, Int.pow_add]
        exact Int.le_trans (Int.mul_le_mul_of_nonneg_right g0 (by omega)) e1
      · rw [show b + t = t + b by omega, Int.pow_add]
        exact Int.lt_of_lt_of_le e2 (Int.mul_le_mul_of_nonneg_right g1 (by omega))
    rcases sp with h | h | h | h | h | h | h | h
    · exact fin 1 h.1 (by omega) (by omega) (by simp; omega) (by simp; omega)
    · exact fin 2 h.1 (by omega) (by omega) (by simp; omega) (by simp; omega)
    · exact fin 3 h.1 (by omega) (by omega) (by simp; omega) (by simp; omega)
    · exact fin 4 h.1 (by omega) (by omega) (by simp; omega) (by simp; omega)
    · exact fin 5 h.1 (by omega) (by omega) (by simp; omega) (by simp; omega)
    · exact fin 6 h.1 (by omega) (by omega) (by simp; omega) (by simp; omega)
    · exact fin 7 h.1 (by omega) (by omega) (by simp; omega) (by simp; omega)
    · exact fin 8 h.1 (by omega) (by omega) (by simp; omega) (by simp; omega)
  rw [bits_Len64.j0]
  by_cases c1 : x ≥ 65536
  · rw [if_pos c1]
    by_cases c2 : x / 65536 ≥ 256
    · rw [if_pos c2, if_pos (by omega), if_pos (by omega)]
      obtain ⟨L, e, l1, l2, l3, l4⟩ := key (x / 65536 / 256 % 256) 24 24 (by omega) (by omega) rfl (by omega) (by omega)
      refine ⟨L, ?_, l1, by omega, l3, l4⟩
      rw [← e]
      have : wrap64 (wrap64 (n + 16) + 8) = wrap64 (n + 24) := by unfold wrap64; omega
      rw [this]
      rfl
    · rw [if_neg c2, if_pos (by omega), if_pos (by omega)]
      obtain ⟨L, e, l1, l2, l3, l4⟩ := key (x / 65536 % 256) 16 16 (by omega) (by omega) rfl (by omega) (by omega)
      exact ⟨L, e, l1, by omega, l3, l4⟩
  · rw [if_neg c1]
    by_cases c2 : x ≥ 256
    · rw [if_pos c2, if_pos (by omega), if_pos (by omega)]
      obtain ⟨L, e, l1, l2, l3, l4⟩ := key (x / 256 % 256) 8 8 (by omega) (by omega) rfl (by omega) (by omega)
      exact ⟨L, e, l1, by omega, l3, l4⟩
    · rw [if_neg c2, if_pos (by omega), if_pos (by omega)]
      obtain ⟨L, e, l1, l2, l3, l4⟩ := key (x % 256) 0 0 (by omega) (by omega) rfl (by omega) (by omega)
      refine ⟨L, ?_, l1, by omega, l3, l4⟩
      rw [← e]
      have : n = wrap64 (n + 0) := by unfold wrap64; omega
      rw [← this]
      rfl
theorem Len_eq (k : Nat) (x : Int) (hx : 0 < x) (hx1 : x < 18446744073709551616) :
    ∃ L : Nat, bits_Len64.f (k + 1) x = some (L : Int) ∧ 1 ≤ L ∧ L ≤ 64 ∧ (2 : Int) ^ (L - 1) ≤ x ∧ x < (2 : Int) ^ L := by
  unfold bits_Len64.f
  by_cases c : x ≥ 4294967296
  · rw [if_pos c]
    obtain ⟨L, e, l1, l2, l3, l4⟩ := Len_j0 k (x / 4294967296) 32 (by omega) (by omega) (by omega) (by omega)
    refine ⟨32 + L, by rw [e]; simp, by omega, by omega, ?_, ?_⟩
    · rw [show 32 + L - 1 = (L - 1) + 32 by omega, Int.pow_add]
      have : (2 : Int) ^ (L - 1) * 4294967296 ≤ x / 4294967296 * 4294967296 := Int.mul_le_mul_of_nonneg_right l3 (by omega)
      have h32 : (2 : Int) ^ 32 = 4294967296 := by decide
      rw [h32]; omega
    · rw [show 32 + L = L + 32 by omega, Int.pow_add]
      have : (x / 4294967296 + 1) * 4294967296 ≤ (2 : Int) ^ L * 4294967296 := Int.mul_le_mul_of_nonneg_right (by omega) (by omega)
      have h32 : (2 : Int) ^ 32 = 4294967296 := by decide
      rw [h32]; omega
  · rw [if_neg c]
    obtain ⟨L, e, l1, l2, l3, l4⟩ := Len_j0 k x 0 hx (by omega) (by omega) (by omega)
    exact ⟨L, by rw [e]; simp, l1, by omega, l3, l4⟩
/-- The digit's loops: what a guess q of the quotient of n = U * 2^32 + u by y = a * 2^32 + b tells. -/
structure Guess (U u a b q r : Int) : Prop where
  e : r = U - q * a
  r0 : 0 ≤ r
  r1 : r < 4294967296
  lo : (U * 4294967296 + u) / (a * 4294967296 + b) ≤ q
  hi : q ≤ 4294967297
structure Div32 (U u a b : Int) : Prop where
  a0 : 2147483648 ≤ a
  a1 : a < 4294967296
  b0 : 0 ≤ b
  b1 : b < 4294967296
  u0 : 0 ≤ u
  u1 : u < 4294967296
  U0 : 0 ≤ U
  U1 : U < a * 4294967296 + b
theorem Guess.key {U u a b q r : Int} (g : Guess U u a b q r) : U * 4294967296 + u - q * (a * 4294967296 + b) = r * 4294967296 + u - q * b := by
  rw [g.e]; grind
/-- A guess that passes the test is the digit. -/
theorem Guess.done {U u a b q r : Int} (d : Div32 U u a b) (g : Guess U u a b q r) (h : q * b ≤ r * 4294967296 + u) : q = (U * 4294967296 + u) / (a * 4294967296 + b) := by
  have hk := g.key
  have hy : 0 < a * 4294967296 + b := by have := d.a0; have := d.b0; omega
  have : q ≤ (U * 4294967296 + u) / (a * 4294967296 + b) := (Int.le_ediv_iff_mul_le hy).2 (by omega)
  exact Int.le_antisymm this g.lo
/-- One that fails it is too great. -/
theorem Guess.fails {U u a b q r : Int} (d : Div32 U u a b) (g : Guess U u a b q r) (h : 4294967296 ≤ q ∨ r * 4294967296 + u < q * b) : (U * 4294967296 + u) / (a * 4294967296 + b) ≤ q - 1 := by
  have hk := g.key
  have hy : 0 < a * 4294967296 + b := by have := d.a0; have := d.b0; omega
  have : (U * 4294967296 + u) / (a * 4294967296 + b) < q := by
    rcases h with h | h
    · have h1 : (U * 4294967296 + u) / (a * 4294967296 + b) < 4294967296 := (Int.ediv_lt_iff_lt_mul hy).2 (by have := d.U1; have := d.u1; omega)
      omega
    · exact (Int.ediv_lt_iff_lt_mul hy).2 (by omega)
  omega
/-- The last guess, where what is left would be beyond a digit. -/
theorem Guess.over {U u a b q r : Int} (d : Div32 U u a b) (g : Guess U u a b q r) (h : 4294967296 ≤ q ∨ r * 4294967296 + u < q * b) (hr : 4294967296 ≤ r + a) :
    q - 1 = (U * 4294967296 + u) / (a * 4294967296 + b) := by
  have h1 := g.fails d h
  have hk := g.key
  have hy : 0 < a * 4294967296 + b := by have := d.a0; have := d.b0; omega
  have hb : (q - 1) * b ≤ 18446744073709551616 - 4294967296 := by
    have h2 : q - 1 ≤ 4294967296 := by have := g.hi; omega
    have h3 : (q - 1) * b ≤ 4294967296 * b := Int.mul_le_mul_of_nonneg_right h2 d.b0
    have := d.b1; omega
  have e : (q - 1) * (a * 4294967296 + b) = q * (a * 4294967296 + b) - a * 4294967296 - b := by grind
  have e2 : (q - 1) * b = q * b - b := by grind
  have : q - 1 ≤ (U * 4294967296 + u) / (a * 4294967296 + b) := (Int.le_ediv_iff_mul_le hy).2 (by have := d.u0; omega)
  omega
theorem Guess.next {U u a b q r : Int} (d : Div32 U u a b) (g : Guess U u a b q r) (h : 4294967296 ≤ q ∨ r * 4294967296 + u < q * b) (hr : r + a < 4294967296) : Guess U u a b (q - 1) (r + a) :=
  ⟨by rw [g.e]; grind, by have := g.r0; have := d.a0; omega, hr, g.fails d h, by have := g.hi; omega⟩
theorem Guess.first {U u a b : Int} (d : Div32 U u a b) : Guess U u a b (U / a) (U - U / a * a) := by
  have ha : 0 < a := by have := d.a0; omega
  have h1 : U - U / a * a = U % a := by have := Int.emod_def U a; rw [this]; grind
  have hy : 0 < a * 4294967296 + b := by have := d.a0; have := d.b0; omega
  refine ⟨rfl, by rw [h1]; exact Int.emod_nonneg _ (by omega), by rw [h1]; have := Int.emod_lt_of_pos U ha; have := d.a1; omega, ?_, ?_⟩
  · have h2 : (U * 4294967296 + u) / (a * 4294967296 + b) < U / a + 1 := by
      refine (Int.ediv_lt_iff_lt_mul hy).2 ?_
      have h3 : U < (U / a + 1) * a := Int.lt_ediv_add_one_mul_self U ha
      have h4 : 0 ≤ U / a := Int.ediv_nonneg d.U0 (by omega)
      have h5 : 0 ≤ (U / a + 1) * b := Int.mul_nonneg (by omega) d.b0
      have h6 : (U / a + 1) * (a * 4294967296 + b) = (U / a + 1) * a * 4294967296 + (U / a + 1) * b := by grind
      have := d.u1
      omega
    omega
  · have h2 : U / a < 4294967298 := by
      refine (Int.ediv_lt_iff_lt_mul ha).2 ?_
      have := d.U1; have := d.b1; have := d.a0
      omega
    omega
theorem qb_small {U u a b q r : Int} (d : Div32 U u a b) (g : Guess U u a b q r) (hq : ¬ q ≥ 4294967296) : 0 ≤ q ∧ 0 ≤ q * b ∧ q * b ≤ 18446744065119617025 := by
  have hy : 0 < a * 4294967296 + b := by have := d.a0; have := d.b0; omega
  have h0 : 0 ≤ q := Int.le_trans (Int.ediv_nonneg (by have := d.U0; have := d.u0; omega) (by omega)) g.lo
  exact ⟨h0, pb q b h0 (by omega) d.b0 d.b1⟩
/-- The first digit's loop. -/
theorem l0_digit (y s a b U u un0 : Int) (d : Div32 U u a b) : ∀ (n k : Nat) (q r : Int), (4294967296 - r) ≤ n * a → n * 2 + 2 ≤ k → Guess U u a b q r →
    ∃ k', k - (n * 2 + 2) ≤ k' ∧ bits_Div64.l0 k y s a b U u un0 q r = bits_Div64.j2 k' y s a b U u un0 ((U * 4294967296 + u) / (a * 4294967296 + b)) := by
  intro n
  induction n with
  | zero =>
    intro k q r h1 h2 g
    have := g.r1
    omega
  | succ n ih =>
    intro k q r h1 h2 g
    obtain ⟨k, rfl⟩ : ∃ m, k = m + 1 := ⟨k - 1, by omega⟩
    have hr0 := g.r0
    have hr1 := g.r1
    have hu0 := d.u0
    have hu1 := d.u1
    have ha0 := d.a0
    have ha1 := d.a1
    have hghi := g.hi
    have w1 : IntKind.u64.wrap (IntKind.u64.wrap (4294967296 * r) + u) = r * 4294967296 + u := by rw [wu64, wu64]; omega
    have w2 : IntKind.u64.wrap (r + a) = r + a := by rw [wu64]; omega
    have fail : (4294967296 ≤ q ∨ r * 4294967296 + u < q * b) → 1 ≤ q → ∃ k', k + 1 - ((n + 1) * 2 + 2) ≤ k' ∧ bits_Div64.j1 k y s a b U u un0 q r true = bits_Div64.j2 k' y s a b U u un0 ((U * 4294967296 + u) / (a * 4294967296 + b)) := by
      intro hf hq1
      obtain ⟨k, rfl⟩ : ∃ m, k = m + 1 := ⟨k - 1, by omega⟩
      have w3 : IntKind.u64.wrap (q - 1) = q - 1 := by rw [wu64]; omega
      rw [bits_Div64.j1]
      simp only [if_true]
      rw [w2, w3]
      by_cases ho : r + a ≥ 4294967296
      · rw [if_pos ho, g.over d hf ho]
        exact ⟨k, by omega, rfl⟩
      · rw [if_neg ho]
        have e : ((n + 1 : Nat) : Int) * a = n * a + a := by rw [Int.natCast_add]; grind
        obtain ⟨k', hk', ek⟩ := ih k (q - 1) (r + a) (by omega) (by omega) (g.next d hf (by omega))
        exact ⟨k', by omega, ek⟩
    rw [bits_Div64.l0]
    by_cases hq : q ≥ 4294967296
    · rw [if_pos hq]
      exact fail (.inl hq) (by omega)
    · rw [if_neg hq]
      obtain ⟨q0, qb0, qb1⟩ := qb_small d g hq
      have w4 : IntKind.u64.wrap (q * b) = q * b := by rw [wu64]; omega
      rw [w1, w4]
      by_cases hf : q * b > r * 4294967296 + u
      · rw [decide_eq_true hf]
        refine fail (.inr (by omega)) ?_
        rcases Decidable.em (1 ≤ q) with h | h
        · exact h
        · exfalso
          have : q = 0 := by omega
          subst this
          omega
      · rw [decide_eq_false hf]
        obtain ⟨k, rfl⟩ : ∃ m, k = m + 1 := ⟨k - 1, by omega⟩
        rw [bits_Div64.j1]
        simp only [Bool.false_eq_true, if_false]
        rw [g.done d (by omega)]
        exact ⟨k, by omega, rfl⟩
/-- The second digit's loop, and what is handed back. -/
theorem l1_digit (y s a b U u q1 un21 : Int) (d : Div32 U u a b) (hs : 0 ≤ s) : ∀ (n k : Nat) (q r : Int), (4294967296 - r) ≤ n * a → n * 2 + 2 ≤ k → Guess U u a b q r →
    bits_Div64.l1 k y s a b u q1 r un21 q = some (IntKind.u64.wrap ((IntKind.u64.wrap (q1 * 4294967296)) + (U * 4294967296 + u) / (a * 4294967296 + b)), shr .u64 (IntKind.u64.wrap ((IntKind.u64.wrap ((IntKind.u64.wrap (un21 * 4294967296)) + u)) - (IntKind.u64.wrap ((U * 4294967296 + u) / (a * 4294967296 + b) * y)))) s) := by
  intro n
  induction n with
  | zero =>
    intro k q r h1 h2 g
    have := g.r1
    omega
  | succ n ih =>
    intro k q r h1 h2 g
    obtain ⟨k, rfl⟩ : ∃ m, k = m + 1 := ⟨k - 1, by omega⟩
    have hr0 := g.r0
    have hr1 := g.r1
    have hu0 := d.u0
    have hu1 := d.u1
    have ha0 := d.a0
    have ha1 := d.a1
    have hghi := g.hi
    have w1 : IntKind.u64.wrap (IntKind.u64.wrap (4294967296 * r) + u) = r * 4294967296 + u := by rw [wu64, wu64]; omega
    have w2 : IntKind.u64.wrap (r + a) = r + a := by rw [wu64]; omega
    have fail : (4294967296 ≤ q ∨ r * 4294967296 + u < q * b) → 1 ≤ q → bits_Div64.j4 k y s a b u q1 r un21 q true = some (IntKind.u64.wrap ((IntKind.u64.wrap (q1 * 4294967296)) + (U * 4294967296 + u) / (a * 4294967296 + b)), shr .u64 (IntKind.u64.wrap ((IntKind.u64.wrap ((IntKind.u64.wrap (un21 * 4294967296)) + u)) - (IntKind.u64.wrap ((U * 4294967296 + u) / (a * 4294967296 + b) * y)))) s) := by
      intro hf hq1
      obtain ⟨k, rfl⟩ : ∃ m, k = m + 1 := ⟨k - 1, by omega⟩
      have w3 : IntKind.u64.wrap (q - 1) = q - 1 := by rw [wu64]; omega
      rw [bits_Div64.j4]
      simp only [if_true]
      rw [w2, w3]
      by_cases ho : r + a ≥ 4294967296
      · rw [if_pos ho, if_pos hs, g.over d hf ho]
      · rw [if_neg ho]
        have e : ((n + 1 : Nat) : Int) * a = n * a + a := by rw [Int.natCast_add]; grind
        exact ih k (q - 1) (r + a) (by omega) (by omega) (g.next d hf (by omega))
    rw [bits_Div64.l1]
    by_cases hq : q ≥ 4294967296
    · rw [if_pos hq]
      exact fail (.inl hq) (by omega)
    · rw [if_neg hq]
      obtain ⟨q0, qb0, qb1⟩ := qb_small d g hq
      have w4 : IntKind.u64.wrap (q * b) = q * b := by rw [wu64]; omega
      rw [w1, w4]
      by_cases hf : q * b > r * 4294967296 + u
      · rw [decide_eq_true hf]
        refine fail (.inr (by omega)) ?_
        rcases Decidable.em (1 ≤ q) with h | h
        · exact h
        · exfalso
          have : q = 0 := by omega
          subst this
          omega
      · rw [decide_eq_false hf]
        obtain ⟨k, rfl⟩ : ∃ m, k = m + 1 := ⟨k - 1, by omega⟩
        rw [bits_Div64.j4]
        simp only [Bool.false_eq_true, if_false]
        rw [g.done d (by omega), if_pos hs]
/-- Two digits: the quotient of U * 2^64 + u1 * 2^32 + u0 by y, where y has its highest bit. -/
theorem two_digits (y s a b U u1 u0 : Int) (hy : y = a * 4294967296 + b) (d : Div32 U u1 a b) (h0 : 0 ≤ u0) (h1 : u0 < 4294967296) (hs : 0 ≤ s) (k : Nat) (hk : 20 < k) :
    ∃ Q R, bits_Div64.l0 k y s a b U u1 u0 (U / a) (U - U / a * a) = some (Q, shr .u64 R s) ∧ U * 18446744073709551616 + u1 * 4294967296 + u0 = Q * y + R ∧ 0 ≤ R ∧ R < y ∧ 0 ≤ Q := by
  have ha0 := d.a0
  have ha1 := d.a1
  have hb0 := d.b0
  have hb1 := d.b1
  have hyp : 0 < y := by omega
  have hU0 := d.U0
  have hU1 := d.U1
  have hu0 := d.u0
  have hu1 := d.u1
  have g := Guess.first d
  have gr0 := g.r0
  obtain ⟨k', hk', e⟩ := l0_digit y s a b U u1 u0 d 2 k (U / a) (U - U / a * a) (by omega) (by omega) g
  rw [e]
  obtain ⟨k', rfl⟩ : ∃ m, k' = m + 1 := ⟨k' - 1, by omega⟩
  rw [bits_Div64.j2, if_neg (by omega)]
  have hn : 0 ≤ U * 4294967296 + u1 := by omega
  have q1lt : (U * 4294967296 + u1) / y < 4294967296 := (Int.ediv_lt_iff_lt_mul hyp).2 (by omega)
  have q10 : 0 ≤ (U * 4294967296 + u1) / y := Int.ediv_nonneg hn (by omega)
  have em := Int.emod_def (U * 4294967296 + u1) y
  have er0 : 0 ≤ (U * 4294967296 + u1) % y := Int.emod_nonneg _ (by omega)
  have er1 : (U * 4294967296 + u1) % y < y := Int.emod_lt_of_pos _ hyp
  have ey : y * ((U * 4294967296 + u1) / y) = (U * 4294967296 + u1) / y * y := Int.mul_comm _ _
  rw [ey] at em
  rw [← hy]
  generalize hQ1 : (U * 4294967296 + u1) / y = q1 at *
  generalize hV : (U * 4294967296 + u1) % y = V at *
  have wV : IntKind.u64.wrap ((IntKind.u64.wrap ((IntKind.u64.wrap (U * 4294967296)) + u1)) - (IntKind.u64.wrap (q1 * y))) = V := by
    simp only [wu64]
    generalize q1 * y = p at *
    omega
  rw [wV]
  have hap : 0 < a := by omega
  have va0 : 0 ≤ V / a := Int.ediv_nonneg er0 (by omega)
  have va1 : V / a * a ≤ V := Int.ediv_mul_le _ (by omega)
  have va2 : 0 ≤ V / a * a := Int.mul_nonneg va0 (by omega)
  have va3 : V / a ≤ V := Int.ediv_le_self _ er0
  have wt : IntKind.u64.wrap (Int.tdiv V a) = V / a := by
    rw [wu64, Int.tdiv_eq_ediv_of_nonneg er0]; omega
  rw [wt]
  have wm : IntKind.u64.wrap (V / a * a) = V / a * a := by rw [wu64]; omega
  have wr : IntKind.u64.wrap (V - V / a * a) = V - V / a * a := by rw [wu64]; omega
  rw [wm, wr]
  have d2 : Div32 V u0 a b := ⟨ha0, ha1, hb0, hb1, h0, h1, er0, by omega⟩
  have g2 := Guess.first d2
  have gr2 := g2.r0
  rw [l1_digit y s a b V u0 q1 V d2 hs 2 k' (V / a) (V - V / a * a) (by omega) (by omega) g2, ← hy]
  have n2 : 0 ≤ V * 4294967296 + u0 := by omega
  have q2lt : (V * 4294967296 + u0) / y < 4294967296 := (Int.ediv_lt_iff_lt_mul hyp).2 (by omega)
  have q20 : 0 ≤ (V * 4294967296 + u0) / y := Int.ediv_nonneg n2 (by omega)
  have em2 := Int.emod_def (V * 4294967296 + u0) y
  have fr0 : 0 ≤ (V * 4294967296 + u0) % y := Int.emod_nonneg _ (by omega)
  have fr1 : (V * 4294967296 + u0) % y < y := Int.emod_lt_of_pos _ hyp
  have ey2 : y * ((V * 4294967296 + u0) / y) = (V * 4294967296 + u0) / y * y := Int.mul_comm _ _
  rw [ey2] at em2
  generalize (V * 4294967296 + u0) / y = q2 at *
  generalize (V * 4294967296 + u0) % y = R at *
  have wR : IntKind.u64.wrap ((IntKind.u64.wrap ((IntKind.u64.wrap (V * 4294967296)) + u0)) - (IntKind.u64.wrap (q2 * y))) = R := by
    simp only [wu64]
    generalize q2 * y = p at *
    omega
  have wQ : IntKind.u64.wrap ((IntKind.u64.wrap (q1 * 4294967296)) + q2) = q1 * 4294967296 + q2 := by simp only [wu64]; omega
  rw [wR, wQ]
  refine ⟨_, _, rfl, ?_, fr0, fr1, by omega⟩
  have e3 : (q1 * 4294967296 + q2) * y = q1 * y * 4294967296 + q2 * y := by grind
  rw [e3]
  generalize q2 * y = p2 at *
  generalize q1 * y = p1 at *
  omega
theorem Div64_eq (hi lo y : Int) (h0 : 0 ≤ hi) (h1 : hi < y) (l0 : 0 ≤ lo) (l1 : lo < 18446744073709551616) (y1 : y < 18446744073709551616) (k : Nat) (hk : 30 < k) :
    bits_Div64.f k hi lo y = some ((hi * 18446744073709551616 + lo) / y, (hi * 18446744073709551616 + lo) % y) := by
  unfold bits_Div64.f
  rw [if_neg (by omega), if_neg (by omega)]
  have hy : 0 < y := by omega
  by_cases hz : hi = 0
  · rw [if_pos hz, hz]
    have q0 : 0 ≤ lo / y := Int.ediv_nonneg l0 (by omega)
    have q1 : lo / y ≤ lo := Int.ediv_le_self _ l0
    rw [wu64, Int.tdiv_eq_ediv_of_nonneg l0, Int.tmod_eq_emod_of_nonneg l0]
    have e : (lo / y) % 18446744073709551616 = lo / y := by omega
    rw [e]; simp
  · rw [if_neg hz]
    obtain ⟨k, rfl⟩ : ∃ m, k = m + 1 := ⟨k - 1, by omega⟩
    obtain ⟨L, eL, L1, L64, p1, p2⟩ := Len_eq k y hy y1
    unfold bits_LeadingZeros64.f
    rw [eL]
    simp only [Option.bind_some]
    have ws : IntKind.u64.wrap (wrap64 (64 - (L : Int))) = ((64 - L : Nat) : Int) := by rw [wu64]; unfold wrap64; omega
    have ws2 : IntKind.u64.wrap (64 - ((64 - L : Nat) : Int)) = (L : Int) := by rw [wu64]; omega
    rw [ws, ws2, if_pos (by omega), if_pos (by omega)]
    have esl : ∀ x : Int, shl .u64 x ((64 - L : Nat) : Int) = (x * 2 ^ (64 - L)) % 18446744073709551616 := fun x => by
      unfold shl
      rw [wu64, Int.toNat_natCast, show min (64 - L) IntKind.u64.bits = 64 - L from Nat.min_eq_left (by show 64 - L ≤ 64; omega)]
    have esr : ∀ x : Int, shr .u64 x (L : Int) = x / 2 ^ L := fun x => by
      unfold shr
      rw [Int.toNat_natCast, show min L IntKind.u64.bits = L from Nat.min_eq_left L64]
    have esr2 : ∀ x : Int, shr .u64 x ((64 - L : Nat) : Int) = x / 2 ^ (64 - L) := fun x => by
      unfold shr
      rw [Int.toNat_natCast, show min (64 - L) IntKind.u64.bits = 64 - L from Nat.min_eq_left (by show 64 - L ≤ 64; omega)]
    have hD : (0 : Int) < 2 ^ (64 - L) := Int.pow_pos (by decide)
    have hE : (0 : Int) < 2 ^ L := Int.pow_pos (by decide)
    have hDE : (2 : Int) ^ L * 2 ^ (64 - L) = 18446744073709551616 := by
      rw [← Int.pow_add, show L + (64 - L) = 64 by omega]; decide
    have hDE2 : (2 : Int) ^ (L - 1) * 2 ^ (64 - L) = 9223372036854775808 := by
      rw [← Int.pow_add, show L - 1 + (64 - L) = 63 by omega]; decide
    have hor : ∀ x z : Int, 0 ≤ x → x % 2 ^ (64 - L) = 0 → x < 18446744073709551616 → 0 ≤ z → z < 2 ^ (64 - L) → z < 18446744073709551616 → Go.bits .or .u64 x z = x + z := fun x z a1 a2 a3 a4 a5 a6 =>
      bits_join .u64 64 (by decide) (fun n a b => by rw [wu64]; omega) (64 - L) x z a1 a2 (by omega) a4 a5 (by omega)
    simp only [esl, esr]
    generalize hDd : (2 : Int) ^ (64 - L) = D at *
    generalize hEd : (2 : Int) ^ L = E at *
    generalize (2 : Int) ^ (L - 1) = E2 at *
    have yD1 : y * D < 18446744073709551616 := by
      rw [← hDE]; exact Int.mul_lt_mul_of_pos_right p2 hD
    have yD0 : 9223372036854775808 ≤ y * D := by
      rw [← hDE2]; exact Int.mul_le_mul_of_nonneg_right p1 (by omega)
    have ey : y * D % 18446744073709551616 = y * D := by omega
    rw [ey]
    have hD1 : hi * D ≤ (y - 1) * D := Int.mul_le_mul_of_nonneg_right (by omega) (by omega)
    have hD2 : (y - 1) * D = y * D - D := by grind
    have hD0 : 0 ≤ hi * D := Int.mul_nonneg h0 (by omega)
    have ehi : hi * D % 18446744073709551616 = hi * D := by omega
    rw [ehi]
    have lE0 : 0 ≤ lo / E := Int.ediv_nonneg l0 (by omega)
    have lE1 : lo / E < D := (Int.ediv_lt_iff_lt_mul hE).2 (by rw [Int.mul_comm, hDE]; exact l1)
    have elo : lo * D / 18446744073709551616 = lo / E := by
      rw [← hDE]; exact Int.mul_ediv_mul_of_pos_left lo E hD
    rw [hor (hi * D) (lo / E) hD0 (Int.mul_emod_left _ _) (by omega) lE0 lE1 (by omega), and32 (y * D) (by omega) (by omega), and32 _ (by omega) (by omega)]
    have lD0 : 0 ≤ lo * D := Int.mul_nonneg l0 (by omega)
    rw [if_neg (by omega)]
    have d : Div32 (hi * D + lo / E) (lo * D % 18446744073709551616 / 4294967296) (y * D / 4294967296) (y * D % 4294967296) := ⟨by omega, by omega, by omega, by omega, by omega, by omega, by omega, by omega⟩
    have hap : 0 < y * D / 4294967296 := by omega
    have U0 : 0 ≤ hi * D + lo / E := by omega
    have ua0 : 0 ≤ (hi * D + lo / E) / (y * D / 4294967296) := Int.ediv_nonneg U0 (by omega)
    have ua1 : (hi * D + lo / E) / (y * D / 4294967296) * (y * D / 4294967296) ≤ hi * D + lo / E := Int.ediv_mul_le _ (by omega)
    have ua2 : 0 ≤ (hi * D + lo / E) / (y * D / 4294967296) * (y * D / 4294967296) := Int.mul_nonneg ua0 (by omega)
    have ua3 : (hi * D + lo / E) / (y * D / 4294967296) ≤ hi * D + lo / E := Int.ediv_le_self _ U0
    have wt : IntKind.u64.wrap (Int.tdiv (hi * D + lo / E) (y * D / 4294967296)) = (hi * D + lo / E) / (y * D / 4294967296) := by
      rw [wu64, Int.tdiv_eq_ediv_of_nonneg U0]; omega
    rw [wt]
    have wm : IntKind.u64.wrap ((hi * D + lo / E) / (y * D / 4294967296) * (y * D / 4294967296)) = (hi * D + lo / E) / (y * D / 4294967296) * (y * D / 4294967296) := by rw [wu64]; omega
    have wr : IntKind.u64.wrap (hi * D + lo / E - (hi * D + lo / E) / (y * D / 4294967296) * (y * D / 4294967296)) = hi * D + lo / E - (hi * D + lo / E) / (y * D / 4294967296) * (y * D / 4294967296) := by rw [wu64]; omega
    rw [wm, wr]
    obtain ⟨Q, R, e, eQ, R0, R1, Q0⟩ := two_digits (y * D) ((64 - L : Nat) : Int) (y * D / 4294967296) (y * D % 4294967296) (hi * D + lo / E) (lo * D % 18446744073709551616 / 4294967296) (lo * D % 18446744073709551616 % 4294967296) (by omega) d (by omega) (by omega) (by omega) (k + 1) (by omega)
    rw [e, esr2]
    have hN : (hi * 18446744073709551616 + lo) * D = Q * (y * D) + R := by
      rw [← eQ]
      have e1 : (hi * 18446744073709551616 + lo) * D = hi * D * 18446744073709551616 + lo * D := by grind
      rw [e1]
      generalize hi * D = x at *
      generalize lo * D = z at *
      omega
    have hR : R = (hi * 18446744073709551616 + lo - Q * y) * D := by
      have : (hi * 18446744073709551616 + lo - Q * y) * D = (hi * 18446744073709551616 + lo) * D - Q * (y * D) := by grind
      rw [this, hN]; omega
    generalize hr : hi * 18446744073709551616 + lo - Q * y = r at *
    have r0 : 0 ≤ r := by
      rcases Decidable.em (0 ≤ r) with h | h
      · exact h
      · exfalso
        have : r * D ≤ (-1) * D := Int.mul_le_mul_of_nonneg_right (by omega) (by omega)
        omega
    have r1 : r < y := by
      rcases Decidable.em (r < y) with h | h
      · exact h
      · exfalso
        have : y * D ≤ r * D := Int.mul_le_mul_of_nonneg_right (by omega) (by omega)
        omega
    have eR : R / D = r := by rw [hR]; exact Int.mul_ediv_cancel _ (by omega)
    rw [eR]
    obtain ⟨g1, g2⟩ := (Int.ediv_emod_unique hy).2 (⟨by rw [← hr]; grind, r0, r1⟩ : r + y * Q = hi * 18446744073709551616 + lo ∧ 0 ≤ r ∧ r < y)
    rw [g1, g2]
/-- A product over a number, cut down, or up. -/
def divS (a b c : Int) (up : Bool) : Int := if up = true then -((-(a * b)) / c) else a * b / c
/-- A number of 64 bits with a sign. -/
def In64 (n : Int) : Prop := -9223372036854775808 ≤ n ∧ n ≤ 9223372036854775807
instance (n : Int) : Decidable (In64 n) := by unfold In64; infer_instance
theorem size_eq (a : Int) (h : In64 a) : fix_size.f a = some (if a < 0 then -a else a, decide (a < 0)) := by
  obtain ⟨h0, h1⟩ := h
  unfold fix_size.f
  by_cases hn : a < 0
  · rw [if_pos hn, if_pos hn, decide_eq_true hn, wu64, wu64]
    have : -(a % 18446744073709551616) % 18446744073709551616 = -a := by omega
    rw [this]
  · rw [if_neg hn, if_neg hn, decide_eq_false hn, wu64]
    have : a % 18446744073709551616 = a := by omega
    rw [this]
theorem signed_eq (n : Int) (below : Bool) (h0 : 0 ≤ n) (h1 : n < 18446744073709551616) (k : Nat) :
    fix_signed.f (k + 1) n below = some (if In64 (if below = true then -n else n) then (if below = true then -n else n, true) else (0, false)) := by
  unfold fix_signed.f
  cases below with
  | true =>
    simp only [if_true]
    rw [fix_signed.j0]
    by_cases h : n ≤ 9223372036854775808
    · rw [decide_eq_true h, if_pos rfl, if_pos (by unfold In64; omega)]
      have : wrap64 (-(wrap64 n)) = -n := by unfold wrap64; omega
      rw [this]
    · rw [decide_eq_false h]
      simp only [Bool.false_eq_true, if_false, if_true]
      rw [if_neg (by unfold In64; omega)]
  | false =>
    simp only [Bool.false_eq_true, if_false]
    rw [fix_signed.j0]
    simp only [Bool.false_eq_true, if_false]
    by_cases h : n < 9223372036854775808
    · rw [if_pos h, if_pos (by unfold In64; omega)]
      have : wrap64 n = n := by unfold wrap64; omega
      rw [this]
    · rw [if_neg h, if_neg (by unfold In64; omega)]
theorem or_ne (x y : Int) (x0 : 0 ≤ x) (x1 : x < 18446744073709551616) (y0 : 0 ≤ y) (y1 : y < 18446744073709551616) : (Go.bits .or .u64 x y != 0) = decide (x ≠ 0 ∨ y ≠ 0) := by
  obtain ⟨a, rfl⟩ := Int.eq_ofNat_of_zero_le x0
  obtain ⟨b, rfl⟩ := Int.eq_ofNat_of_zero_le y0
  rw [(bits_nat .u64 64 (by decide) (fun n a b => by rw [wu64]; omega) a b (by omega) (by omega)).2]
  rw [Bool.eq_iff_iff]
  simp only [bne_iff_ne, ne_eq, decide_eq_true_eq]
  have := @Nat.or_eq_zero_iff a b
  omega
theorem neg_div (A c : Int) (hc : 0 < c) : (-A) / c = -(A / c) - (if A % c > 0 then 1 else 0) := by
  have e := Int.emod_add_mul_ediv A c
  have m0 := Int.emod_nonneg A (show c ≠ 0 by omega)
  have m1 := Int.emod_lt_of_pos A hc
  generalize hq : A / c = q at *
  generalize hr : A % c = r at *
  by_cases h : r > 0
  · rw [if_pos h]
    have e2 : c * (-q - 1) = -(c * q) - c := by grind
    exact ((Int.ediv_emod_unique hc).2 (⟨by rw [e2]; omega, by omega, by omega⟩ : (c - r) + c * (-q - 1) = -A ∧ 0 ≤ c - r ∧ c - r < c)).1
  · rw [if_neg h]
    have e2 : c * (-q - 0) = -(c * q) := by grind
    exact ((Int.ediv_emod_unique hc).2 (⟨by rw [e2]; omega, by omega, by omega⟩ : 0 + c * (-q - 0) = -A ∧ (0 : Int) ≤ 0 ∧ (0 : Int) < c)).1
theorem abs_mul (a b : Int) : (if a < 0 then -a else a) * (if b < 0 then -b else b) = if (a < 0) ≠ (b < 0) then -(a * b) else a * b := by
  by_cases h1 : a < 0 <;> by_cases h2 : b < 0 <;> simp [h1, h2] <;> grind
theorem Div_none (a b c : Int) (up : Bool) (k : Nat) (h : c ≤ 0) : fix_Div.f k a b c up = some (0, false) := by
  unfold fix_Div.f; rw [if_pos h]
theorem Div_eq (a b c : Int) (up : Bool) (ha : In64 a) (hb : In64 b) (hc : 0 < c) (hc1 : c ≤ 9223372036854775807) (k : Nat) (hk : 40 < k) :
    fix_Div.f k a b c up = some (if In64 (divS a b c up) then (divS a b c up, true) else (0, false)) := by
  unfold fix_Div.f
  rw [if_neg (by omega), size_eq a ha, size_eq b hb]
  simp only [Option.bind_some]
  have hx0 : 0 ≤ (if a < 0 then -a else a) ∧ (if a < 0 then -a else a) ≤ 9223372036854775808 := by unfold In64 at ha; split <;> omega
  have hy0 : 0 ≤ (if b < 0 then -b else b) ∧ (if b < 0 then -b else b) ≤ 9223372036854775808 := by unfold In64 at hb; split <;> omega
  have hab := abs_mul a b
  generalize hx : (if a < 0 then -a else a) = x at *
  generalize hy : (if b < 0 then -b else b) = y at *
  rw [Wide_eq x y hx0.1 (by omega) hy0.1 (by omega)]
  simp only [Option.bind_some]
  have wc : IntKind.u64.wrap c = c := by rw [wu64]; omega
  rw [wc]
  have A0 : 0 ≤ x * y := Int.mul_nonneg hx0.1 hy0.1
  have A1 : x * y ≤ 9223372036854775808 * 9223372036854775808 := Int.mul_le_mul hx0.2 hy0.2 hy0.1 (by omega)
  have hbe : (decide (a < 0) != decide (b < 0)) = decide ((a < 0) ≠ (b < 0)) := by
    by_cases h1 : a < 0 <;> by_cases h2 : b < 0 <;> simp [h1, h2]
  have hP : a * b = if ((a < 0) ≠ (b < 0)) then -(x * y) else x * y := by
    rw [hab]; split <;> omega
  generalize hA : x * y = A at *
  have hq : A / c * c ≤ A := Int.ediv_mul_le _ (by omega)
  have hr0 : 0 ≤ A % c := Int.emod_nonneg _ (by omega)
  have hq0 : 0 ≤ A / c := Int.ediv_nonneg A0 (by omega)
  have hS : divS a b c up = (if ((a < 0) ≠ (b < 0)) then -(A / c + (if A % c > 0 ∧ up = false then 1 else 0)) else (A / c + (if A % c > 0 ∧ up = true then 1 else 0))) := by
    have hn := neg_div A c hc
    unfold divS
    rw [hP]
    cases up <;> by_cases h : ((a < 0) ≠ (b < 0)) <;> simp only [if_pos h, if_neg h, Bool.false_eq_true, if_false, if_true, and_true, and_false, Int.neg_neg, reduceCtorEq]
    · rw [hn]; split <;> omega
    · omega
    · omega
    · rw [hn]; split <;> omega
  by_cases hbig : A / 18446744073709551616 ≥ c
  · rw [if_pos hbig]
    have h2 : 18446744073709551616 ≤ A / c := (Int.le_ediv_iff_mul_le hc).2 (by omega)
    have hno : ¬ In64 (divS a b c up) := by
      rw [hS]; unfold In64
      split <;> split <;> omega
    rw [if_neg hno]
  · rw [if_neg hbig]
    have em : A / 18446744073709551616 * 18446744073709551616 + A % 18446744073709551616 = A := by omega
    rw [Div64_eq _ _ c (by omega) (by omega) (by omega) (by omega) (by omega) k (by omega), em]
    simp only [Option.bind_some]
    have hq1 : A / c < 18446744073709551616 := (Int.ediv_lt_iff_lt_mul hc).2 (by omega)
    have hj : ∀ below : Bool, (below = true → ((a < 0) ≠ (b < 0))) → (below = false → ¬ ((a < 0) ≠ (b < 0)) ∨ A = 0) →
        fix_Div.j0 k up (A / c) (A % c) below = some (if In64 (divS a b c up) then (divS a b c up, true) else (0, false)) := by
      intro below hb1 hb2
      have hval : divS a b c up = if below = true then -(A / c + (if A % c > 0 ∧ up ≠ below then 1 else 0)) else (A / c + (if A % c > 0 ∧ up ≠ below then 1 else 0)) := by
        rw [hS]
        cases below with
        | true => rw [if_pos (hb1 rfl), if_pos rfl]; cases up <;> simp
        | false =>
          rcases hb2 rfl with h | h
          · simp only [if_neg h, Bool.false_eq_true, if_false]; cases up <;> simp
          · subst h
            simp
      obtain ⟨k, rfl⟩ : ∃ m, k = m + 1 := ⟨k - 1, by omega⟩
      rw [fix_Div.j0]
      obtain ⟨k, rfl⟩ : ∃ m, k = m + 1 := ⟨k - 1, by omega⟩
      have plain : ¬ (A % c > 0 ∧ up ≠ below) → fix_Div.j1 (k + 1) (A / c) below false = some (if In64 (divS a b c up) then (divS a b c up, true) else (0, false)) := by
        intro hn
        rw [fix_Div.j1]
        simp only [Bool.false_eq_true, if_false]
        obtain ⟨k, rfl⟩ : ∃ m, k = m + 1 := ⟨k - 1, by omega⟩
        rw [signed_eq _ below hq0 hq1, hval, if_neg hn, Int.add_zero]
        rfl
      by_cases hr : A % c > 0
      · rw [if_pos hr]
        by_cases hu : up = below
        · have : (up != below) = false := by rw [hu]; simp
          rw [this]; exact plain (fun h => h.2 hu)
        · have : (up != below) = true := by simpa using hu
          rw [this, fix_Div.j1]
          simp only [if_true]
          have hval2 : divS a b c up = if below = true then -(A / c + 1) else (A / c + 1) := by rw [hval]; simp only [if_pos (show A % c > 0 ∧ up ≠ below from ⟨hr, hu⟩)]
          by_cases ho : A / c + 1 = 18446744073709551616
          · have w0 : IntKind.u64.wrap (A / c + 1) = 0 := by rw [wu64, ho]; decide
            rw [w0, if_pos rfl, if_neg (by rw [hval2]; unfold In64; split <;> omega)]
          · have w0 : IntKind.u64.wrap (A / c + 1) = A / c + 1 := by rw [wu64]; omega
            rw [w0, if_neg (by omega)]
            obtain ⟨k, rfl⟩ : ∃ m, k = m + 1 := ⟨k - 1, by omega⟩
            rw [signed_eq _ below (by omega) (by omega), hval2]
            rfl
      · rw [if_neg hr]; exact plain (fun h => hr h.1)
    rw [hbe]
    by_cases hne : ((a < 0) ≠ (b < 0))
    · rw [decide_eq_true hne]
      simp only [if_true]
      rw [or_ne _ _ (by omega) (by omega) (by omega) (by omega)]
      refine hj _ (fun _ => hne) (fun h => .inr ?_)
      have := of_decide_eq_false h
      omega
    · rw [decide_eq_false hne]
      simp only [Bool.false_eq_true, if_false]
      exact hj false (fun h => by simp at h) (fun _ => .inl hne)
theorem and_low (n : Int) : Go.bits .and .i64 n 4294967295 = n % 4294967296 := by
  have e : ((BitVec.ofInt 64 n) &&& (BitVec.ofInt 64 4294967295)).toNat = (n % 18446744073709551616).toNat % 2 ^ 32 := by
    rw [BitVec.toNat_and, BitVec.toNat_ofInt, show (BitVec.ofInt 64 4294967295).toNat = 2 ^ 32 - 1 from rfl, Nat.and_two_pow_sub_one_eq_mod]
    rfl
  show IntKind.i64.wrap (((BitVec.ofInt 64 n) &&& (BitVec.ofInt 64 4294967295)).toNat : Int) = _
  rw [e, IntKind.wrap_i64]
  omega
theorem or_halves (h l : Int) (h0 : -2147483648 ≤ h) (h1 : h ≤ 2147483647) (l0 : 0 ≤ l) (l1 : l < 4294967296) : Go.bits .or .i64 (wrap64 (h * 4294967296)) l = h * 4294967296 + l := by
  rw [w64 _ (by omega) (by omega)]
  obtain ⟨b, rfl⟩ := Int.eq_ofNat_of_zero_le l0
  have hb : b < 2 ^ 32 := by omega
  have ea : (BitVec.ofInt 64 (h * 4294967296)).toNat = 2 ^ 32 * (h % 4294967296).toNat := by
    rw [BitVec.toNat_ofInt, show ((2 ^ 64 : Nat) : Int) = 18446744073709551616 from rfl]
    omega
  have eb : (BitVec.ofInt 64 (b : Int)).toNat = b := by
    rw [BitVec.toNat_ofInt, show ((2 ^ 64 : Nat) : Int) = 18446744073709551616 from rfl]
    omega
  show IntKind.i64.wrap (((BitVec.ofInt 64 (h * 4294967296)) ||| (BitVec.ofInt 64 (b : Int))).toNat : Int) = _
  rw [BitVec.toNat_or, ea, eb, ← Nat.two_pow_add_eq_or_of_lt hb, IntKind.wrap_i64]
  omega
theorem plus_eq (hi lo n : Int) (h0 : 0 ≤ lo) (h1 : lo < 18446744073709551616) (g0 : -1000000000 ≤ hi) (g1 : hi ≤ 1000000000) (n0 : -9223372036854775808 ≤ n) (n1 : n ≤ 9223372036854775807) :
    ∃ hi' lo', fix_wide_plus.f hi lo n = some (hi', lo') ∧ hi' * 18446744073709551616 + lo' = hi * 18446744073709551616 + lo + n ∧ 0 ≤ lo' ∧ lo' < 18446744073709551616 ∧ hi - 1 ≤ hi' ∧ hi' ≤ hi + 1 := by
  unfold fix_wide_plus.f
  rw [wu64]
  rw [if_pos h0, if_pos (by omega)]
  have e1 : wrap64 (hi + n / 9223372036854775808) = hi + n / 9223372036854775808 := w64 _ (by omega) (by omega)
  have e2 : wrap64 ((lo + n % 18446744073709551616) / 18446744073709551616) = (lo + n % 18446744073709551616) / 18446744073709551616 := w64 _ (by omega) (by omega)
  have e3 : wrap64 (hi + n / 9223372036854775808 + (lo + n % 18446744073709551616) / 18446744073709551616) = hi + n / 9223372036854775808 + (lo + n % 18446744073709551616) / 18446744073709551616 := w64 _ (by omega) (by omega)
  rw [e1, e2, e3]
  exact ⟨_, _, rfl, by omega, by omega, by omega, by omega, by omega⟩
theorem sum_l0 (l : List Int) (hl : l.length ≤ 90000) (hr : ∀ x ∈ l, Rng .i64 x) : ∀ (d i k : Nat) (hi lo : Int), l.length - i = d → i ≤ l.length → d < k → 0 ≤ lo → lo < 18446744073709551616 → -(i : Int) ≤ hi → hi ≤ i →
    hi * 18446744073709551616 + lo = (l.take i).sum → fix_Sum.l0 k l (l.length : Int) (i : Int) hi lo = some (if -9223372036854775808 ≤ l.sum ∧ l.sum ≤ 9223372036854775807 then (l.sum, true) else (0, false)) := by
  intro d
  induction d with
  | zero =>
    intro i k hi lo hd hi0 hk l0 l1 g0 g1 hs
    obtain ⟨k, rfl⟩ : ∃ m, k = m + 1 := ⟨k - 1, by omega⟩
    simp only [fix_Sum.l0]
    rw [if_neg (by omega)]
    have e : (l.take i).sum = l.sum := by rw [List.take_of_length_le (by omega)]
    rw [e] at hs
    by_cases hc : -9223372036854775808 ≤ l.sum ∧ l.sum ≤ 9223372036854775807
    · rw [if_pos hc]
      have e1 : wrap64 lo = l.sum := by unfold wrap64; omega
      rw [e1, if_pos (by omega)]
    · rw [if_neg hc, if_neg (by unfold wrap64; omega)]
  | succ d ih =>
    intro i k hi lo hd hi0 hk l0 l1 g0 g1 hs
    obtain ⟨k, rfl⟩ : ∃ m, k = m + 1 := ⟨k - 1, by omega⟩
    have a0 : i < l.length := by omega
    have a1 : l.length - (i + 1) = d := by omega
    have a3 : d < k := by omega
    have ew : wrap64 ((i : Int) + 1) = ((i + 1 : Nat) : Int) := by unfold wrap64; omega
    clear hd hi0 hk
    simp only [fix_Sum.l0]
    rw [if_pos (by omega), if_pos (by omega), if_pos (by omega)]
    obtain ⟨n0, n1⟩ : -9223372036854775808 ≤ rd l (i : Int) ∧ rd l (i : Int) ≤ 9223372036854775807 := hr _ (rd_mem l i a0)
    obtain ⟨hi', lo', e, e2, q0, q1, q2, q3⟩ := plus_eq hi lo (rd l (i : Int)) l0 l1 (by omega) (by omega) n0 n1
    rw [e]
    simp only [Option.bind_some]
    rw [ew]
    have hs' : hi' * 18446744073709551616 + lo' = (l.take (i + 1)).sum := by rw [take_snoc_sum l i a0, e2, hs]
    clear e2 hs n0 n1 e ew
    exact ih (i + 1) k hi' lo' a1 a0 a3 q0 q1 (by omega) (by omega) hs'
theorem fix_Sum_eq (l : List Int) (hl : l.length ≤ 90000) (hr : ∀ x ∈ l, Rng .i64 x) (k : Nat) (hk : l.length < k) :
    fix_Sum.f k l = some (if -9223372036854775808 ≤ l.sum ∧ l.sum ≤ 9223372036854775807 then (l.sum, true) else (0, false)) := by
  unfold fix_Sum.f
  exact sum_l0 l hl hr l.length 0 k 0 0 (by omega) (by omega) hk (by omega) (by omega) (by omega) (by omega) (by simp)
theorem xor_max (x : Int) (h0 : 0 ≤ x) (h1 : x < 18446744073709551616) : Go.bits .xor .u64 IntKind.u64.max x = 18446744073709551615 - x := by
  obtain ⟨n, rfl⟩ := Int.eq_ofNat_of_zero_le h0
  have en : (BitVec.ofInt 64 (n : Int)).toNat = n := by
    rw [BitVec.toNat_ofInt, show ((2 ^ 64 : Nat) : Int) = 18446744073709551616 from rfl]
    omega
  show IntKind.u64.wrap (((BitVec.ofInt 64 IntKind.u64.max) ^^^ (BitVec.ofInt 64 (n : Int))).toNat : Int) = _
  have em : BitVec.ofInt 64 IntKind.u64.max = BitVec.allOnes 64 := rfl
  rw [em, BitVec.allOnes_xor, BitVec.toNat_not, en, wu64]
  omega
/-- Sizes: how far a number is from 0. -/
def ab (a : Int) : Int := if a < 0 then -a else a
theorem ab_bd (a : Int) (h : In64 a) : 0 ≤ ab a ∧ ab a ≤ 9223372036854775808 := by unfold ab; obtain ⟨h0, h1⟩ := h; split <;> omega
theorem ab_mul (a b : Int) : ab a * ab b = if (decide (a < 0) != decide (b < 0)) = true then -(a * b) else a * b := by
  have := abs_mul a b
  unfold ab
  rw [this]
  by_cases h1 : a < 0 <;> by_cases h2 : b < 0 <;> simp [h1, h2]
theorem ab_prod (a b : Int) (ha : In64 a) (hb : In64 b) : 0 ≤ ab a * ab b ∧ ab a * ab b ≤ 85070591730234615865843651857942052864 := by
  obtain ⟨a0, a1⟩ := ab_bd a ha
  obtain ⟨b0, b1⟩ := ab_bd b hb
  refine ⟨Int.mul_nonneg a0 b0, ?_⟩
  have : ab a * ab b ≤ 9223372036854775808 * 9223372036854775808 := Int.mul_le_mul a1 b1 b0 (by omega)
  omega
theorem product_eq (a b : Int) (ha : In64 a) (hb : In64 b) : fix_product.f a b = some (a * b / 18446744073709551616, a * b % 18446744073709551616) := by
  unfold fix_product.f
  have ⟨a0, a1⟩ := ab_bd a ha
  have ⟨b0, b1⟩ := ab_bd b hb
  rw [size_eq a ha, size_eq b hb]
  simp only [Option.bind_some]
  rw [show (if a < 0 then -a else a) = ab a from rfl, show (if b < 0 then -b else b) = ab b from rfl, Wide_eq _ _ a0 (by omega) b0 (by omega)]
  simp only [Option.bind_some]
  have hm := ab_mul a b
  have ⟨p0, p1⟩ := ab_prod a b ha hb
  generalize ab a * ab b = P at *
  have hnb : (decide (a < 0) == decide (b < 0)) = !(decide (a < 0) != decide (b < 0)) := by simp [bne]
  rw [hnb]
  generalize (decide (a < 0) != decide (b < 0)) = neg at *
  clear hnb ha hb a0 a1 b0 b1
  have m0 := Int.emod_nonneg P (show (18446744073709551616 : Int) ≠ 0 by omega)
  have m1 := Int.emod_lt_of_pos P (show (0 : Int) < 18446744073709551616 by omega)
  have q0 : 0 ≤ P / 18446744073709551616 := by omega
  have q1 : P / 18446744073709551616 ≤ 4611686018427387904 := by omega
  have e := Int.emod_add_mul_ediv P 18446744073709551616
  cases neg with
  | false =>
    simp only [Bool.not_false, if_true, Bool.false_eq_true, if_false] at hm ⊢
    rw [w64 _ (by omega) (by omega), hm]
  | true =>
    simp only [Bool.not_true, Bool.false_eq_true, if_false, if_true] at hm ⊢
    rw [xor_max _ m0 m1, xor_max _ q0 (by omega), if_pos (by omega), wu64]
    have hX : a * b = -P := by omega
    rw [hX]
    congr 2
    · generalize P / 18446744073709551616 = q at *
      generalize P % 18446744073709551616 = r at *
      have hP : P = 18446744073709551616 * q + r := by omega
      subst hP
      clear hX hm p0 p1 e
      unfold wrap64
      by_cases hr : r = 0
      · subst hr; omega
      · omega
    · omega
theorem Or2 (x y : Int) (k : Nat) (hk : 3 < k) : cmp_Or_int.f k [x, y] = some (if x = 0 then y else x) := by
  unfold cmp_Or_int.f
  have hl : (([x, y] : List Int).length : Int) = 2 := rfl
  rw [hl]
  have r0 : rd [x, y] 0 = x := rfl
  have r1 : rd [x, y] 1 = y := rfl
  obtain ⟨k, rfl⟩ : ∃ m, k = m + 1 := ⟨k - 1, by omega⟩
  simp only [cmp_Or_int.l0]
  rw [if_pos (by omega), if_pos (by omega), hl, if_pos (by omega), r0, show wrap64 (0 + 1) = 1 from by rw [w64s _ (by omega) (by omega)]; rfl]
  by_cases hx : x = 0
  · rw [if_pos hx, if_pos hx]
    obtain ⟨k, rfl⟩ : ∃ m, k = m + 1 := ⟨k - 1, by omega⟩
    simp only [cmp_Or_int.l0]
    rw [if_pos (by omega), if_pos (by omega), hl, if_pos (by omega), r1, show wrap64 (1 + 1) = 2 from by rw [w64s _ (by omega) (by omega)]; rfl]
    by_cases hy : y = 0
    · rw [if_pos hy]
      obtain ⟨k, rfl⟩ : ∃ m, k = m + 1 := ⟨k - 1, by omega⟩
      simp only [cmp_Or_int.l0]
      rw [if_neg (by omega), hy]
    · rw [if_neg hy]
  · rw [if_neg hx, if_neg hx]
theorem Cmp64_eq (a b : Int) : cmp_Compare_int64.f a b = some (if a < b then -1 else if b < a then 1 else 0) := by
  unfold cmp_Compare_int64.f cmp_isNaN_int64.f
  simp only [Option.bind_some, bne_self_eq_false, Bool.false_eq_true, if_false]
  repeat' split
  all_goals first | rfl | omega
theorem CmpU_eq (a b : Int) : cmp_Compare_uint64.f a b = some (if a < b then -1 else if b < a then 1 else 0) := by
  unfold cmp_Compare_uint64.f cmp_isNaN_uint64.f
  simp only [Option.bind_some, bne_self_eq_false, Bool.false_eq_true, if_false]
  repeat' split
  all_goals first | rfl | omega
theorem lex_hi (X Y p r q s : Int) (hX : X = 18446744073709551616 * p + r) (hY : Y = 18446744073709551616 * q + s) (r0 : 0 ≤ r) (r1 : r < 18446744073709551616) (s0 : 0 ≤ s) (s1 : s < 18446744073709551616) :
    (if (if p < q then (-1 : Int) else if q < p then 1 else 0) = 0 then (if r < s then (-1 : Int) else if s < r then 1 else 0) else (if p < q then (-1 : Int) else if q < p then 1 else 0)) = if X < Y then -1 else if Y < X then 1 else 0 := by
  by_cases h1 : p < q
  · rw [if_pos h1, if_neg (show ¬ (-1 : Int) = 0 by omega), if_pos (show X < Y by omega)]
  · rw [if_neg h1]
    by_cases h2 : q < p
    · rw [if_pos h2, if_neg (show ¬ (1 : Int) = 0 by omega), if_neg (show ¬ X < Y by omega), if_pos (show Y < X by omega)]
    · rw [if_neg h2, if_pos rfl]
      obtain rfl : p = q := by omega
      by_cases h3 : r < s
      · rw [if_pos h3, if_pos (show X < Y by omega)]
      · rw [if_neg h3]
        by_cases h4 : s < r
        · rw [if_pos h4, if_neg (show ¬ X < Y by omega), if_pos (show Y < X by omega)]
        · rw [if_neg h4, if_neg (show ¬ X < Y by omega), if_neg (show ¬ Y < X by omega)]
theorem Cmp_eq (a b c d : Int) (ha : In64 a) (hb : In64 b) (hc : In64 c) (hd : In64 d) (k : Nat) (hk : 3 < k) :
    fix_Cmp.f k a b c d = some (if a * b < c * d then -1 else if c * d < a * b then 1 else 0) := by
  unfold fix_Cmp.f
  rw [product_eq a b ha hb, product_eq c d hc hd]
  generalize a * b = X
  generalize c * d = Y
  simp only [Option.bind_some]
  rw [Cmp64_eq, CmpU_eq]
  simp only [Option.bind_some]
  rw [Or2 _ _ k hk]
  simp only [Option.bind_some]
  rw [lex_hi X Y _ _ _ _ (by omega) (by omega) (by omega) (by omega) (by omega) (by omega)]
theorem Add_eq (a b : Int) (ha : In64 a) (hb : In64 b) : fix_Add.f a b = some (if In64 (a + b) then (a + b, true) else (0, false)) := by
  unfold fix_Add.f
  by_cases h : In64 (a + b)
  · rw [if_pos h, w64 _ h.1 h.2]
    obtain ⟨h1, h2⟩ := ha
    obtain ⟨h3, h4⟩ := hb
    by_cases h0 : b = 0
    · rw [if_pos h0]; split <;> rfl
    · rw [if_neg (by simp only [bne_iff_ne, ne_eq, decide_eq_decide]; omega)]
  · rw [if_neg h]
    unfold In64 at ha hb h
    rw [if_pos (by simp only [bne_iff_ne, ne_eq, decide_eq_decide]; unfold wrap64; omega), if_neg (by omega)]
open Go.Sort in
theorem insInner_perm (f : Int → Int → Bool) (a : Nat) : ∀ (j : Nat) (d : Array Int), a ≤ j → j < d.size → (insInner f a j d).toList.Perm d.toList
  | 0, d, _, _ => by rw [insInner]
  | j + 1, d, ha, hj => by
    rw [insInner]
    by_cases h : (decide (j + 1 > a) && f d[j + 1]! d[j]!) = true
    · rw [if_pos h]
      have hja : j + 1 > a := by rw [Bool.and_eq_true] at h; exact of_decide_eq_true h.1
      have hp := (swp_permIn d 0 d.size (j + 1) j (by omega) hj (by omega) (by omega) (Nat.le_refl _)).2.2
      have hs : (swp d (j + 1) j).size = d.size := size_swp d (j + 1) j
      have ih := insInner_perm f a j (swp d (j + 1) j) (by omega) (by rw [hs]; omega)
      refine ih.trans ?_
      have e : ∀ x : Array Int, (x.extract 0 x.size) = x := fun x => by simp
      rw [e] at hp
      have e2 := e (swp d (j + 1) j)
      rw [hs] at e2
      rw [e2] at hp
      exact hp
    · rw [if_neg h]
open Go.Sort in
theorem insOuter_perm (f : Int → Int → Bool) (a b : Nat) : ∀ (n i : Nat) (d : Array Int), b - i = n → a ≤ i → b ≤ d.size → (insOuter f a b i d).toList.Perm d.toList
  | 0, i, d, h, _, _ => by rw [insOuter, if_neg (by omega)]
  | n + 1, i, d, h, ha, hb => by
    rw [insOuter, if_pos (by omega)]
    have h1 := insInner_perm f a i d ha (by omega)
    have h2 := insOuter_perm f a b n (i + 1) (insInner f a i d) (by omega) (by omega) (by have := h1.length_eq; simp only [Array.length_toList] at this; omega)
    exact h2.trans h1
/-! The document's order of lots is the code's: both put each lot in from the right. -/
def insrR (lt : Int → Int → Bool) : List Int → Int → List Int
  | [], x => [x]
  | y :: q, x => if lt x y = true then y :: insrR lt q x else x :: y :: q
theorem get_mid (p r : List Int) (x : Int) : (p ++ x :: r).toArray[p.length]! = x := by
  have h : p.length < (p ++ x :: r).toArray.size := by simp
  rw [getElem!_pos (p ++ x :: r).toArray p.length h, List.getElem_toArray, List.getElem_append_right (Nat.le_refl _)]
  simp
theorem swp_mid (p r : List Int) (y x : Int) : Go.Sort.swp (p ++ y :: x :: r).toArray (p.length + 1) p.length = (p ++ x :: y :: r).toArray := by
  have h1 := get_mid p (x :: r) y
  have h2 : (p ++ y :: x :: r).toArray[p.length + 1]! = x := by
    have := get_mid (p ++ [y]) r x
    rw [List.append_assoc, List.length_append] at this
    exact this
  unfold Go.Sort.swp
  rw [h1, h2]
  apply Array.ext'
  simp [Array.setIfInBounds, List.set_append_right]
theorem insInner_list (lt : Int → Int → Bool) (x : Int) : ∀ (q r : List Int), Go.Sort.insInner lt 0 q.length (q.reverse ++ x :: r).toArray = ((insrR lt q x).reverse ++ r).toArray
  | [], r => by simp [Go.Sort.insInner, insrR]
  | y :: q, r => by
    have ih := insInner_list lt x q (y :: r)
    have hl : (y :: q).reverse ++ x :: r = q.reverse ++ y :: x :: r := by simp
    have hq : q.length = q.reverse.length := (List.length_reverse).symm
    rw [hl, List.length_cons, Go.Sort.insInner]
    have h1 := get_mid q.reverse (x :: r) y
    have h2 : (q.reverse ++ y :: x :: r).toArray[q.reverse.length + 1]! = x := by
      have := get_mid (q.reverse ++ [y]) r x
      rw [List.append_assoc, List.length_append] at this
      exact this
    have hs := swp_mid q.reverse r y x
    rw [← hq] at h1 h2 hs
    rw [h1, h2, hs, decide_eq_true (show q.length + 1 > 0 by omega), Bool.true_and]
    by_cases hlt : lt x y = true
    · rw [if_pos hlt, ih]
      simp only [insrR]
      rw [if_pos hlt]
      simp
    · rw [if_neg hlt]
      simp only [insrR]
      rw [if_neg hlt]
      simp
/-- The first n places in order. -/
def insL (lt : Int → Int → Bool) : Nat → List Int
  | 0 => []
  | n + 1 => (insrR lt (insL lt n).reverse (n : Int)).reverse
theorem insrR_len (lt : Int → Int → Bool) (x : Int) : ∀ q : List Int, (insrR lt q x).length = q.length + 1
  | [] => rfl
  | y :: q => by
    simp only [insrR]
    split
    · simp only [List.length_cons, insrR_len lt x q]
    · rfl
theorem insL_len (lt : Int → Int → Bool) : ∀ n : Nat, (insL lt n).length = n
  | 0 => rfl
  | n + 1 => by simp only [insL, List.length_reverse, insrR_len, insL_len lt n]
theorem insOuter_list (lt : Int → Int → Bool) (n : Nat) : ∀ (d i : Nat), i + d = n → Go.Sort.insOuter lt 0 n i (insL lt i ++ ((List.range' i d).map fun j : Nat => (j : Int))).toArray = (insL lt n).toArray
  | 0, i, h => by
    obtain rfl : i = n := by omega
    rw [Go.Sort.insOuter, if_neg (by omega)]
    simp
  | d + 1, i, h => by
    have ih := insOuter_list lt n d (i + 1) (by omega)
    rw [Go.Sort.insOuter, if_pos (by omega)]
    have e : Go.Sort.insInner lt 0 i (insL lt i ++ ((List.range' i (d + 1)).map fun j : Nat => (j : Int))).toArray = (insL lt (i + 1) ++ ((List.range' (i + 1) d).map fun j : Nat => (j : Int))).toArray := by
      have h1 := insInner_list lt (i : Int) (insL lt i).reverse ((List.range' (i + 1) d).map fun j : Nat => (j : Int))
      rw [List.length_reverse, insL_len, List.reverse_reverse] at h1
      rw [List.range'_succ, List.map_cons, h1]
      rfl
    rw [e, ih]
/-! What Split answers, of weights that may be. -/
theorem spF_big : 1000 < spF := by decide
def amt (n : Int) : Prop := 0 ≤ n ∧ n ≤ 1000000000000000
theorem amtB_t {n : Int} (h : amt n) : amtB n = true := by unfold amtB; exact decide_eq_true h
theorem amtB_f {n : Int} (h : ¬ amt n) : amtB n = false := by unfold amtB; exact decide_eq_false h
theorem amount_t {n : Int} (h : amt n) : share_amount.f n = some true := by rw [amount_b, amtB_t h]
theorem amount_f {n : Int} (h : ¬ amt n) : share_amount.f n = some false := by rw [amount_b, amtB_f h]
theorem mul_bd' {a b A B : Int} (ha : 0 ≤ a) (ha' : a ≤ A) (hb : 0 ≤ b) (hb' : b ≤ B) : 0 ≤ a * b ∧ a * b ≤ A * B :=
  ⟨Int.mul_nonneg ha hb, Int.le_trans (Int.mul_le_mul_of_nonneg_right ha' hb) (Int.mul_le_mul_of_nonneg_left hb' (Int.le_trans ha ha'))⟩
/-- A part, down. -/
theorem part_le {v w s : Int} (hv : 0 ≤ v) (hw : w ≤ s) (hs : 0 < s) : v * w / s ≤ v := by
  have h1 : v * w ≤ v * s := Int.mul_le_mul_of_nonneg_left hw hv
  have h2 := Int.ediv_le_ediv hs h1
  rw [Int.mul_ediv_cancel _ (show s ≠ 0 by omega)] at h2
  exact h2
theorem Floor_eq (v w s : Int) (hv : amt v) (hw : 0 ≤ w) (hws : w ≤ s) (hs0 : 0 < s) (hs : s ≤ 1000000000000000) (k : Nat) (hk : 40 < k) : share_Floor.f k v w s = some (v * w / s, none) := by
  have h0 := hv
  unfold amt at h0
  unfold share_Floor.f
  rw [amount_t hv, Option.bind_some, if_pos rfl, amount_t (show amt w from ⟨hw, by omega⟩), Option.bind_some, if_pos rfl, amount_t (show amt s from ⟨by omega, hs⟩), Option.bind_some, if_pos rfl, if_neg (by omega), if_neg (by omega), Div_eq v w s false (by unfold In64; omega) (by unfold In64; omega) hs0 (by omega) k hk]
  have e : divS v w s false = v * w / s := by unfold divS; simp
  have p0 : 0 ≤ v * w / s := Int.ediv_nonneg (Int.mul_nonneg h0.1 hw) (by omega)
  have p1 := part_le h0.1 hws hs0
  rw [e, if_pos (by unfold In64; omega), Option.bind_some]
theorem Floor_bad (v w s : Int) (h : ¬ (amt v ∧ amt w ∧ amt s ∧ w ≤ s ∧ s ≠ 0)) (k : Nat) : share_Floor.f k v w s = some (0, some 103) := by
  unfold share_Floor.f
  by_cases h1 : amt v
  · rw [amount_t h1, Option.bind_some, if_pos rfl]
    by_cases h2 : amt w
    · rw [amount_t h2, Option.bind_some, if_pos rfl]
      by_cases h3 : amt s
      · rw [amount_t h3, Option.bind_some, if_pos rfl]
        by_cases h4 : w > s
        · rw [if_pos h4]
        · rw [if_neg h4, if_pos (Decidable.byContradiction fun h5 => h ⟨h1, h2, h3, by omega, h5⟩)]
      · rw [amount_f h3, Option.bind_some, if_neg (by simp)]
    · rw [amount_f h2, Option.bind_some, if_neg (by simp)]
  · rw [amount_f h1, Option.bind_some, if_neg (by simp)]
theorem rest_eq (v w s : Int) (hv : amt v) (hw : 0 ≤ w) (hws : w ≤ s) (hs0 : 0 < s) (hs : s ≤ 1000000000000000) : share_rest.f v w s (v * w / s) = some (v * w % s) := by
  have h0 := hv
  unfold amt at h0
  have p0 : 0 ≤ v * w / s := Int.ediv_nonneg (Int.mul_nonneg h0.1 hw) (by omega)
  have p1 := part_le h0.1 hws hs0
  have hm := Int.emod_add_mul_ediv (v * w) s
  have r0 := Int.emod_nonneg (v * w) (show s ≠ 0 by omega)
  have r1 := Int.emod_lt_of_pos (v * w) hs0
  unfold share_rest.f
  rw [wu64, wu64, wu64, wu64, show v % 18446744073709551616 = v by omega, show w % 18446744073709551616 = w by omega, show s % 18446744073709551616 = s by omega, show v * w / s % 18446744073709551616 = v * w / s by omega, Wide_eq v w (by omega) (by omega) hw (by omega), Option.bind_some, Wide_eq (v * w / s) s p0 (by omega) (by omega) (by omega), Option.bind_some]
  simp only []
  have hc : v * w / s * s = s * (v * w / s) := Int.mul_comm _ _
  rw [hc, wu64]
  generalize v * w = X at *
  generalize X % s = r at *
  generalize s * (X / s) = Y at *
  have e : (X % 18446744073709551616 - Y % 18446744073709551616) % 18446744073709551616 = r := by omega
  rw [e, w64 r (by omega) (by omega)]
/-- Floors; what is above them. -/
def fls (v s : Int) (ws : List Int) : List Int := ws.map fun w => v * w / s
def rss (v s : Int) (ws : List Int) : List Int := ws.map fun w => v * w % s
theorem fls_len (v s : Int) (ws : List Int) : (fls v s ws).length = ws.length := List.length_map _
theorem rss_len (v s : Int) (ws : List Int) : (rss v s ws).length = ws.length := List.length_map _
theorem rd_map (f : Int → Int) (ws : List Int) (i : Nat) (h : i < ws.length) : rd (ws.map f) (i : Int) = f (rd ws (i : Int)) := by
  rw [rd_nat, rd_nat, List.getD_eq_getElem?_getD, List.getD_eq_getElem?_getD, List.getElem?_map, List.getElem?_eq_getElem h]; rfl
theorem set_mid (f : List Int) (n i : Nat) (h : i < n) (hf : i < f.length) (v : Int) (hv : rd f (i : Int) = v) : (f.take i ++ List.replicate (n - i) 0).set i v = f.take (i + 1) ++ List.replicate (n - (i + 1)) 0 := by
  obtain ⟨m, hm⟩ : ∃ m, n - i = m + 1 := ⟨n - i - 1, by omega⟩
  have hl : (f.take i).length = i := by rw [List.length_take]; omega
  rw [hm, show n - (i + 1) = m by omega, List.replicate_succ, List.set_append_right _ _ (by omega), hl, Nat.sub_self, List.set_cons_zero, List.take_succ_eq_append_getElem hf, List.append_assoc]
  rw [rd_nat, List.getD_eq_getElem?_getD, List.getElem?_eq_getElem hf] at hv
  rw [← hv]; rfl
theorem key_inv (v s : Int) : ∀ ws : List Int, s * (fls v s ws).sum + (rss v s ws).sum = v * ws.sum
  | [] => by simp [fls, rss]
  | w :: ws => by
    have ih := key_inv v s ws
    have h1 := Int.emod_add_mul_ediv (v * w) s
    unfold fls rss at ih ⊢
    simp only [List.map_cons, List.sum_cons, Int.mul_add]
    generalize (List.map (fun w => v * w / s) ws).sum = A at *
    generalize (List.map (fun w => v * w % s) ws).sum = C at *
    generalize s * A = SA at *
    generalize s * (v * w / s) = SB at *
    omega
theorem sum_nonneg : ∀ l : List Int, (∀ x ∈ l, 0 ≤ x) → 0 ≤ l.sum
  | [], _ => by simp
  | x :: l, h => by
    have := sum_nonneg l (fun y hy => h y (List.mem_cons_of_mem _ hy))
    have := h x (List.mem_cons_self ..)
    simp; omega
theorem mem_le_sum : ∀ l : List Int, (∀ x ∈ l, 0 ≤ x) → ∀ x ∈ l, x ≤ l.sum
  | [], _, x, hx => by simp at hx
  | y :: l, h, x, hx => by
    have h1 := sum_nonneg l (fun y hy => h y (List.mem_cons_of_mem _ hy))
    have h2 := h y (List.mem_cons_self ..)
    rw [List.sum_cons]
    rcases List.mem_cons.1 hx with rfl | hx
    · omega
    · have := mem_le_sum l (fun y hy => h y (List.mem_cons_of_mem _ hy)) x hx
      omega
theorem take_sum_le (l : List Int) (h : ∀ x ∈ l, 0 ≤ x) (i : Nat) : (l.take i).sum ≤ l.sum := by
  have h1 := sum_nonneg (l.drop i) (fun x hx => h x (List.mem_of_mem_drop hx))
  have h2 : l.sum = (l.take i).sum + (l.drop i).sum := by rw [← List.sum_append, List.take_append_drop]
  omega
theorem rss_sum_lt (v s : Int) (hs : 0 < s) : ∀ ws : List Int, ws ≠ [] → (rss v s ws).sum < s * (ws.length : Int)
  | [], h => absurd rfl h
  | [w], _ => by
    have := Int.emod_lt_of_pos (v * w) hs
    simp [rss]; omega
  | w :: x :: ws, _ => by
    have ih := rss_sum_lt v s hs (x :: ws) (by simp)
    have := Int.emod_lt_of_pos (v * w) hs
    unfold rss at ih ⊢
    rw [List.map_cons, List.sum_cons, List.length_cons]
    have e : s * (((x :: ws).length + 1 : Nat) : Int) = s * (((x :: ws).length : Nat) : Int) + s := by rw [Int.natCast_add, Int.mul_add]; simp
    rw [e]
    omega
/-- Weights that may be, of a whole that may be. -/
structure OkW (v : Int) (ws : List Int) : Prop where
  whole : amt v
  pos : 0 < ws.length
  len : ws.length ≤ 32
  each : ∀ w ∈ ws, amt w
  some_ : 0 < ws.sum
  sum : ws.sum ≤ 1000000000000000
theorem OkW.fl_nonneg {v : Int} {ws : List Int} (h : OkW v ws) : ∀ x ∈ fls v ws.sum ws, 0 ≤ x := by
  intro x hx
  obtain ⟨w, hw, rfl⟩ := List.mem_map.1 hx
  exact Int.ediv_nonneg (Int.mul_nonneg h.whole.1 (h.each w hw).1) (by have := h.some_; omega)
theorem OkW.rs_rng {v : Int} {ws : List Int} (h : OkW v ws) : ∀ x ∈ rss v ws.sum ws, 0 ≤ x ∧ x < ws.sum := by
  intro x hx
  obtain ⟨w, hw, rfl⟩ := List.mem_map.1 hx
  exact ⟨Int.emod_nonneg _ (by have := h.some_; omega), Int.emod_lt_of_pos _ h.some_⟩
theorem OkW.left {v : Int} {ws : List Int} (h : OkW v ws) : 0 ≤ v - (fls v ws.sum ws).sum ∧ v - (fls v ws.sum ws).sum < (ws.length : Int) := by
  have hk := key_inv v ws.sum ws
  have h1 := sum_nonneg _ (fun x hx => (h.rs_rng x hx).1)
  have h2 := rss_sum_lt v ws.sum h.some_ ws (by have := h.pos; intro e; rw [e] at this; simp at this)
  have hs := h.some_
  have e : ws.sum * (v - (fls v ws.sum ws).sum) = (rss v ws.sum ws).sum := by rw [Int.mul_sub, Int.mul_comm ws.sum v]; omega
  constructor
  · refine Decidable.byContradiction fun hn => ?_
    have := Int.mul_neg_of_pos_of_neg hs (show v - (fls v ws.sum ws).sum < 0 by omega)
    omega
  · exact Int.lt_of_mul_lt_mul_left (by rw [e]; exact h2) (by omega)
theorem spl_eq {v : Int} {ws : List Int} (h : OkW v ws) (k : Nat) (hk : 40 < k) : ∀ (d i : Nat), i + d = ws.length →
    splL k v ws.sum ws d i (v - ((fls v ws.sum ws).take i).sum) ((fls v ws.sum ws).take i ++ List.replicate (ws.length - i) 0) ((rss v ws.sum ws).take i ++ List.replicate (ws.length - i) 0) = some (fls v ws.sum ws, rss v ws.sum ws, v - (fls v ws.sum ws).sum)
  | 0, i, hi => by
    have e : i = ws.length := by omega
    subst e
    simp only [splL]
    rw [Nat.sub_self, List.replicate_zero, List.append_nil, List.append_nil, List.take_of_length_le (by rw [fls_len]; omega), List.take_of_length_le (by rw [rss_len]; omega)]
  | d + 1, i, hi => by
    have hi' : i < ws.length := by omega
    have hw := h.each _ (rd_mem ws i hi')
    have hle := mem_le_sum ws (fun x hx => (h.each x hx).1) _ (rd_mem ws i hi')
    have hf : rd (fls v ws.sum ws) (i : Int) = v * rd ws (i : Int) / ws.sum := rd_map _ ws i hi'
    have hr : rd (rss v ws.sum ws) (i : Int) = v * rd ws (i : Int) % ws.sum := rd_map _ ws i hi'
    have hl : wrap64 (v - ((fls v ws.sum ws).take i).sum - v * rd ws (i : Int) / ws.sum) = v - ((fls v ws.sum ws).take (i + 1)).sum := by
      rw [take_snoc_sum _ i (by rw [fls_len]; exact hi'), hf]
      have h1 := sum_nonneg ((fls v ws.sum ws).take (i + 1)) (fun x hx => h.fl_nonneg x (List.mem_of_mem_take hx))
      have h2 := take_sum_le _ h.fl_nonneg (i + 1)
      rw [take_snoc_sum _ i (by rw [fls_len]; exact hi'), hf] at h1 h2
      have h3 := h.left.1
      have h4 := h.whole
      unfold amt at h4
      rw [w64 _ (by omega) (by omega)]
      omega
    simp only [splL]
    rw [Floor_eq v _ ws.sum h.whole hw.1 hle h.some_ h.sum k hk, Option.bind_some]
    simp only []
    rw [if_pos trivial, rest_eq v _ ws.sum h.whole hw.1 hle h.some_ h.sum, Option.bind_some, hl, set_mid _ _ i hi' (by rw [fls_len]; exact hi') _ hf, set_mid _ _ i hi' (by rw [rss_len]; exact hi') _ hr]
    exact spl_eq h k hk d (i + 1) (by omega)
theorem rs_mem {q : List Int} (i : Nat) (h : i < q.length) : rd q (i : Int) ∈ q := rd_mem q i h
theorem spC_eq (q : List Int) (hq : ∀ x ∈ q, In64 x) (i j : Nat) (hi : i < q.length) (hj : j < q.length) : fix_Cmp.f spK (rd q (j : Int)) 1 (rd q (i : Int)) 1 = some (if rd q (j : Int) < rd q (i : Int) then -1 else if rd q (i : Int) < rd q (j : Int) then 1 else 0) := by
  rw [Cmp_eq _ 1 _ 1 (hq _ (rd_mem q j hj)) (by unfold In64; omega) (hq _ (rd_mem q i hi)) (by unfold In64; omega) spK (by decide)]
  simp only [Int.mul_one]
theorem ltI_sp (q : List Int) (hq : ∀ x ∈ q, In64 x) (i j : Nat) (hi : i < q.length) (hj : j < q.length) : ltI (spC q) (i : Int) (j : Int) = decide (rd q (j : Int) < rd q (i : Int)) := by
  unfold ltI spC
  rw [spC_eq q hq i j hi hj, Option.getD_some]
  by_cases h : rd q (j : Int) < rd q (i : Int)
  · rw [if_pos h, decide_eq_true h]; rfl
  · rw [if_neg h, decide_eq_false h]; split <;> rfl
theorem spOK_eq (q : List Int) (hq : ∀ x ∈ q, In64 x) : spOK q = true := by
  unfold spOK
  refine List.all_eq_true.2 fun i hi => List.all_eq_true.2 fun j hj => ?_
  rw [spC_eq q hq i j (List.mem_range.1 hi) (List.mem_range.1 hj)]
  rfl
theorem spO_perm (q : List Int) : (spO q).Perm (ixs q.length) := by
  unfold spO Go.Sort.insertionSort
  exact insOuter_perm _ 0 q.length _ (0 + 1) _ rfl (by omega) (by rw [List.size_toArray, ixs_len]; exact Nat.le_refl _)
theorem ixs_mem (n : Nat) (x : Int) (h : x ∈ ixs n) : 0 ≤ x ∧ x < (n : Int) := by
  unfold ixs at h
  obtain ⟨p, hp, rfl⟩ := List.mem_map.1 h
  have := List.mem_range.1 hp
  omega
theorem spO_mem (q : List Int) (x : Int) (h : x ∈ spO q) : 0 ≤ x ∧ x < (q.length : Int) := ixs_mem _ x ((spO_perm q).mem_iff.1 h)
theorem spO_len (q : List Int) : (spO q).length = q.length := by rw [(spO_perm q).length_eq, ixs_len]
theorem OkW.rs64 {v : Int} {ws : List Int} (h : OkW v ws) : ∀ x ∈ rss v ws.sum ws, In64 x := fun x hx => by
  have := h.rs_rng x hx
  have := h.sum
  unfold In64; omega
theorem sum_rng {ws : List Int} (h : ∀ w ∈ ws, amt w) : ∀ x ∈ ws, Rng .i64 x := fun x hx => by
  have := h x hx
  unfold amt at this
  refine ⟨Int.le_trans ?_ this.1, Int.le_trans this.2 ?_⟩ <;> decide
theorem any_amt (ws : List Int) (h : ∀ w ∈ ws, amt w) : (ws.any fun n => !amtB n) = false := by
  rw [List.any_eq_false]
  intro x hx
  rw [amtB_t (h x hx)]; simp
/-- Split, of fewer than twenty weights that may be. -/
theorem Split_ok {v : Int} {ws : List Int} (h : OkW v ws) (h20 : ws.length < 20) : share_Split.f v ws = some (incL (spO (rss v ws.sum ws)) (v - (fls v ws.sum ws).sum).toNat 0 (fls v ws.sum ws), none) := by
  have hs0 := h.some_
  have hs1 := h.sum
  have hl := h.left
  have hlen := h.len
  unfold share_Split.f
  rw [if_neg (by omega), if_neg (by rw [amtB_t h.whole]; simp), if_neg (by rw [any_amt ws h.each]; simp), fix_Sum_eq ws (by omega) (sum_rng h.each) spF (by have := spF_big; omega), if_pos (by omega), Option.bind_some]
  simp only []
  rw [if_neg (by simp), if_neg (by omega), if_neg (by omega)]
  have e := spl_eq h spF (by have := spF_big; omega) ws.length 0 (by omega)
  rw [List.take_zero, List.take_zero, List.nil_append, Nat.sub_zero, List.sum_nil, Int.sub_zero] at e
  rw [e, Option.bind_some, if_pos]
  refine ⟨⟨h.pos, h20⟩, ⟨fls_len _ _ _, rss_len _ _ _⟩, spOK_eq _ h.rs64, ⟨hl.1, by simp only []; omega⟩, by simp only []; rw [spO_len, rss_len], fun y hy => ?_⟩
  have := spO_mem _ y hy
  rw [rss_len] at this
  exact this
theorem Split_nil (v : Int) (hv : amt v) : share_Split.f v [] = some (if v > 0 then ([], some 106) else ([], none)) := by
  unfold share_Split.f
  rw [if_neg (by simp), if_neg (by rw [amtB_t hv]; simp), if_neg (by simp), fix_Sum_eq [] (by simp) (by simp) spF (by have := spF_big; simp; omega), if_pos (by simp), Option.bind_some]
  simp only [List.sum_nil]
  rw [if_neg (by simp), if_neg (by omega), if_pos trivial]
  by_cases h : v > 0
  · rw [if_pos h, if_pos h]
  · rw [if_neg h, if_neg h]; rfl
theorem spO_ins (q : List Int) (h : 0 < q.length) : spO q = insL (ltI (spC q)) q.length := by
  unfold spO Go.Sort.insertionSort
  have e := insOuter_list (ltI (spC q)) q.length (q.length - 1) 1 (by omega)
  have e2 : (insL (ltI (spC q)) 1 ++ ((List.range' 1 (q.length - 1)).map fun j : Nat => (j : Int))) = ixs q.length := by
    obtain ⟨m, hm⟩ : ∃ m, q.length = m + 1 := ⟨q.length - 1, by omega⟩
    unfold ixs
    rw [hm, Nat.add_sub_cancel, List.range_eq_range', List.range'_succ, List.map_cons]
    rfl
  rw [e2] at e
  rw [show (0 : Nat) + 1 = 1 from rfl, e]
theorem SameL_self (xs : List Int) (hl : xs.length < 1000) (k : Nat) (hk : 1000 < k) : pledgeref_SameLongs.f k xs xs = some true := by
  have g : ∀ (d i k : Nat), i + d = xs.length → d < k → pledgeref_SameLongs.l0 k xs xs (i : Int) = some true := fun d => by
    induction d with
    | zero =>
      intro i k h hk
      obtain ⟨k, rfl⟩ : ∃ m, k = m + 1 := ⟨k - 1, by omega⟩
      simp only [pledgeref_SameLongs.l0]
      rw [if_neg (by omega)]
    | succ d ih =>
      intro i k h hk
      obtain ⟨k, rfl⟩ : ∃ m, k = m + 1 := ⟨k - 1, by omega⟩
      simp only [pledgeref_SameLongs.l0]
      rw [if_pos (by omega), if_pos (by omega), if_pos (by omega), if_pos trivial, show wrap64 ((i : Int) + 1) = ((i + 1 : Nat) : Int) by rw [w64s _ (by omega) (by omega)]; omega]
      exact ih (i + 1) k (by omega) (by omega)
  unfold pledgeref_SameLongs.f
  rw [if_pos rfl]
  exact g xs.length 0 k (by omega) (by omega)
/-! A number within bounds; no losses. -/
theorem famount_b (n : Int) : fund_amount.f n = some (amtB n) := by
  unfold fund_amount.f amtB
  by_cases h : n ≥ 0
  · rw [if_pos h]; congr 1; exact decide_eq_decide.2 ⟨fun x => ⟨h, x⟩, fun x => x.2⟩
  · rw [if_neg h, decide_eq_false (fun x => h x.1)]
theorem Clamp_ok {n fl mo : Int} (h1 : amt n) (h2 : amt fl) (h3 : amt mo) (h4 : fl ≤ mo) : fund_Clamp.f n fl mo = some (mn (mx n fl) mo, none) := by
  unfold fund_Clamp.f
  rw [famount_b, amtB_t h1, Option.bind_some, if_pos rfl, famount_b, amtB_t h2, Option.bind_some, if_pos rfl, famount_b, amtB_t h3, Option.bind_some, if_pos rfl, if_neg (by omega)]
theorem Clamp_bad {n fl mo : Int} (h : ¬ (amt n ∧ amt fl ∧ amt mo ∧ fl ≤ mo)) : fund_Clamp.f n fl mo = some (0, some 103) := by
  unfold fund_Clamp.f
  by_cases h1 : amt n
  · rw [famount_b, amtB_t h1, Option.bind_some, if_pos rfl]
    by_cases h2 : amt fl
    · rw [famount_b, amtB_t h2, Option.bind_some, if_pos rfl]
      by_cases h3 : amt mo
      · rw [famount_b, amtB_t h3, Option.bind_some, if_pos rfl, if_pos (Decidable.byContradiction fun h4 => h ⟨h1, h2, h3, by omega⟩)]
      · rw [famount_b, amtB_f h3, Option.bind_some, if_neg (by simp)]
    · rw [famount_b, amtB_f h2, Option.bind_some, if_neg (by simp)]
  · rw [famount_b, amtB_f h1, Option.bind_some, if_neg (by simp)]
theorem amtB_0 : amtB 0 = true := by decide
theorem aboL_zero (s : Int) (ns : List Int) (h : ∀ x ∈ ns, amt x) : ∀ i : Nat, i ≤ ns.length → aboL (fun _ _ => 0) s ns i = List.replicate i 0
  | 0, _ => rfl
  | i + 1, hi => by
    have hx := h _ (rd_mem ns i (by omega))
    unfold amt at hx
    have e : mx (wrap64 (0 - rd ns (i : Int))) 0 = 0 := by
      rw [w64 _ (by omega) (by omega)]
      unfold mx
      split
      · rfl
      · omega
    simp only [aboL]
    rw [aboL_zero s ns h i (by omega), e, List.replicate_succ']
theorem Top_zero_l0 (n : Nat) (hn : n ≤ 1000) : ∀ (d i k : Nat), i + d = n → d < k → stress_Top.l0 k 0 0 (List.replicate n 0) (n : Int) (i : Int) = some (0, none)
  | 0, i, k, h, hk => by
    obtain ⟨k, rfl⟩ : ∃ m, k = m + 1 := ⟨k - 1, by omega⟩
    have e : fix_Add.f 0 0 = some (0, true) := by decide +kernel
    simp only [stress_Top.l0]
    rw [if_neg (by omega), e, Option.bind_some, if_pos rfl, if_neg (by omega)]
  | d + 1, i, k, h, hk => by
    obtain ⟨k, rfl⟩ : ∃ m, k = m + 1 := ⟨k - 1, by omega⟩
    have hr : rd (List.replicate n (0 : Int)) (i : Int) = 0 := by rw [rd_nat, List.getD_eq_getElem?_getD, List.getElem?_replicate]; split <;> rfl
    simp only [stress_Top.l0]
    rw [if_pos (by omega), if_pos (by omega), if_pos (by rw [List.length_replicate]; omega), hr, amountS_b, amtB_0, Option.bind_some, if_pos rfl, if_neg (by omega), if_neg (by omega), show wrap64 ((i : Int) + 1) = ((i + 1 : Nat) : Int) by rw [w64s _ (by omega) (by omega)]; omega]
    exact Top_zero_l0 n hn d (i + 1) k (by omega) (by omega)
theorem Top_zero (n k : Nat) (hn : n ≤ 1000) (hk : n < k) : stress_Top.f k (List.replicate n 0) = some (0, none) := by
  unfold stress_Top.f
  rw [List.length_replicate]
  exact Top_zero_l0 n hn n 0 k (by omega) hk
theorem two_zero (k : Nat) (s : Int) (hs : 1 ≤ s ∧ s ≤ 16) (ns : List Int) (hl : ns.length ≤ 32) (h : ∀ x ∈ ns, amt x) (hk : 100 < k) : twoF k (fun _ _ => 0) s ns = some (0, none) := by
  unfold twoF
  rw [if_pos ⟨hl, hs, any_amt ns h⟩, aboL_zero s ns h ns.length (Nat.le_refl _)]
  exact Top_zero ns.length k (by omega) (by omega)
theorem cov_zero (k : Nat) (ns : List Int) (hl : ns.length ≤ 32) (h : ∀ x ∈ ns, amt x) (hk : 100 < k) : ∀ (d s : Nat), s + d = 17 → 1 ≤ s → covL k (fun _ _ => 0) ns d s 0 1 = some (0, 1)
  | 0, s, _, _ => rfl
  | d + 1, s, hd, hs => by
    simp only [covL]
    rw [two_zero k (s : Int) (by omega) ns hl h hk, Option.bind_some]
    simp only []
    rw [if_pos trivial, if_neg (by omega)]
    exact cov_zero k ns hl h hk d (s + 1) (by omega) (by omega)
theorem rd2 (i : Nat) : rd ([1, 1] : List Int) (i : Int) = if i < 2 then 1 else 0 := by
  rw [rd_nat]
  match i with
  | 0 => rfl
  | 1 => rfl
  | i + 2 => rw [if_neg (by omega)]; rfl
theorem split2 : share_Split.f 5 [1, 1] = some ([3, 2], none) := by
  have hw : OkW 5 [1, 1] := ⟨by unfold amt; omega, by simp, by simp, by intro w hw; simp at hw; subst hw; unfold amt; omega, by simp, by simp⟩
  rw [Split_ok hw (by simp)]
  have e1 : ([1, 1] : List Int).sum = 2 := rfl
  have e2 : fls 5 2 [1, 1] = [2, 2] := rfl
  have e3 : rss 5 2 [1, 1] = [1, 1] := rfl
  rw [e1, e2, e3, spO_ins [1, 1] (by simp)]
  have hlt : ∀ i j : Nat, i < 2 → j < 2 → ltI (spC [1, 1]) (i : Int) (j : Int) = false := fun i j hi hj => by
    rw [ltI_sp [1, 1] (by intro x hx; simp at hx; subst hx; unfold In64; omega) i j hi hj, rd2, rd2, if_pos hi, if_pos hj]; rfl
  have h10 : ltI (spC [1, 1]) 1 0 = false := hlt 1 0 (by omega) (by omega)
  have hi : insL (ltI (spC [1, 1])) ([1, 1] : List Int).length = [0, 1] := by
    have e0 : insL (ltI (spC [1, 1])) 1 = [0] := rfl
    show (insrR (ltI (spC [1, 1])) (insL (ltI (spC [1, 1])) 1).reverse 1).reverse = _
    rw [e0]
    simp [insrR, h10]
  rw [hi]
  have e5 : ((5 : Int) - ([2, 2] : List Int).sum).toNat = 1 := rfl
  rw [e5]
  have e6 : rd ([0, 1] : List Int) ((0 : Nat) : Int) = 0 := rfl
  have e7 : rd ([2, 2] : List Int) 0 = 2 := rfl
  simp only [incL]
  rw [e6, e7, w64s (2 + 1) (by omega) (by omega)]
  rfl
theorem amt_of (n : Int) (h0 : 0 ≤ n) (h1 : n ≤ 1000000000000000) : amt n := ⟨h0, h1⟩
theorem size_first : sizeF spF (fun _ _ => 0) 5 9 [1, 1] = some (5, 1, [3, 2]) := by
  have hb := spF_big
  have c1 : fund_Clamp.f 0 5 9 = some (5, none) := by rw [Clamp_ok (amt_of _ (by omega) (by omega)) (amt_of _ (by omega) (by omega)) (amt_of _ (by omega) (by omega)) (by omega)]; rfl
  unfold sizeF
  rw [c1, Option.bind_some]
  simp only []
  rw [if_pos trivial, cov_zero spF [1, 1] (by simp) (by intro w hw; simp at hw; subst hw; exact amt_of _ (by omega) (by omega)) (by omega) 16 1 (by omega) (by omega), Option.bind_some]
  simp only []
  rw [c1, Option.bind_some]
  simp only []
  rw [if_pos trivial, if_neg (by simp), if_pos (by simp), split2, Option.bind_some, if_pos rfl]
theorem size_none (k : Nat) (hk : 100 < k) (fl mo : Int) (h1 : amt fl) (h2 : amt mo) (h3 : fl ≤ mo) : sizeF k (fun _ _ => 0) fl mo [] = some (mn (mx 0 fl) mo, 1, []) := by
  have c1 := Clamp_ok (amt_of 0 (by omega) (by omega)) h1 h2 h3
  unfold sizeF
  rw [c1, Option.bind_some]
  simp only []
  rw [if_pos trivial, cov_zero k [] (by simp) (by simp) hk 16 1 (by omega) (by omega), Option.bind_some]
  simp only []
  rw [c1, Option.bind_some]
  simp only []
  rw [if_pos trivial, if_pos (by simp)]
theorem first24 : pledgelaw24_first.f = some true := by
  unfold pledgelaw24_first.f
  rw [size_first, Option.bind_some, if_pos rfl]
  exact SameL_self _ (by simp) spF spF_big
theorem rd_set (x : List Int) (i j : Nat) (v : Int) (hi : i < x.length) : rd (x.set i v) (j : Int) = if j = i then v else rd x (j : Int) := by
  rw [rd_nat, rd_nat, List.getD_eq_getElem?_getD, List.getD_eq_getElem?_getD, List.getElem?_set]
  by_cases h : i = j
  · subst h; rw [if_pos rfl, if_pos rfl, if_pos hi]; rfl
  · rw [if_neg h, if_neg (fun e => h e.symm)]
theorem calL_len (o n : List Int) : ∀ (d i : Nat) (x : List Int), (calL o n d i x).length = x.length
  | 0, _, _ => rfl
  | d + 1, i, x => by
    simp only [calL]
    rw [calL_len o n d]
    split
    · rw [List.length_set]
    · rfl
theorem calL_get (o n : List Int) : ∀ (d i : Nat) (x : List Int), i + d = x.length → ∀ j : Nat, rd (calL o n d i x) (j : Int) = if i ≤ j ∧ j < x.length ∧ atF n j > atF o j then wrap64 (atF n j - atF o j) else rd x (j : Int)
  | 0, i, x, h, j => by
    simp only [calL]
    rw [if_neg (by omega)]
  | d + 1, i, x, h, j => by
    simp only [calL]
    have hlen : (if atF n i > atF o i then x.set i (wrap64 (atF n i - atF o i)) else x).length = x.length := by split <;> simp
    rw [calL_get o n d (i + 1) _ (by rw [hlen]; omega) j, hlen]
    by_cases hj : j = i
    · subst hj
      rw [if_neg (by omega)]
      by_cases hc : atF n j > atF o j
      · rw [if_pos hc, if_pos ⟨Nat.le_refl _, by omega, hc⟩, rd_set _ _ _ _ (by omega), if_pos rfl]
      · rw [if_neg hc, if_neg (fun q => hc q.2.2)]
    · have e : rd (if atF n i > atF o i then x.set i (wrap64 (atF n i - atF o i)) else x) (j : Int) = rd x (j : Int) := by
        split
        · rw [rd_set _ _ _ _ (by omega), if_neg hj]
        · rfl
      rw [e]
      by_cases hc : i + 1 ≤ j ∧ j < x.length ∧ atF n j > atF o j
      · rw [if_pos hc, if_pos ⟨by omega, hc.2.1, hc.2.2⟩]
      · rw [if_neg hc, if_neg (fun q => hc ⟨by omega, q.2.1, q.2.2⟩)]
theorem rd_zeros (n j : Nat) : rd (List.replicate n (0 : Int)) (j : Int) = 0 := by
  rw [rd_nat, List.getD_eq_getElem?_getD, List.getElem?_replicate]; split <;> rfl
theorem rd_ext (x y : List Int) (hl : x.length = y.length) (h : ∀ j : Nat, j < x.length → rd x (j : Int) = rd y (j : Int)) : x = y := by
  refine List.ext_getElem hl fun j h1 h2 => ?_
  have := h j h1
  rw [rd_nat, rd_nat, List.getD_eq_getElem?_getD, List.getD_eq_getElem?_getD, List.getElem?_eq_getElem h1, List.getElem?_eq_getElem h2] at this
  exact this
/-- What is called of a fund that had nothing is all of it. -/
theorem Calls_nil (sh : List Int) (hl : sh.length ≤ 1000) (h : ∀ x ∈ sh, 0 ≤ x ∧ x ≤ 4000000000000000) : fund_Calls.f [] sh = some sh := by
  unfold fund_Calls.f
  rw [if_pos ⟨by simp, hl⟩]
  have hN : (if ([] : List Int).length < sh.length then sh.length else ([] : List Int).length) = sh.length := by
    rw [List.length_nil]; split <;> omega
  rw [hN]
  congr 1
  refine rd_ext _ _ (by rw [calL_len, List.length_replicate]) fun j hj => ?_
  rw [calL_len, List.length_replicate] at hj
  rw [calL_get [] sh sh.length 0 _ (by rw [List.length_replicate]; omega) j, List.length_replicate, rd_zeros]
  have hm := h _ (rd_mem sh j hj)
  have a0 : atF [] j = 0 := by unfold atF; rw [if_neg (by simp)]
  have a1 : atF sh j = rd sh (j : Int) := by unfold atF; rw [if_pos hj]
  rw [a0, a1]
  by_cases hc : rd sh (j : Int) > 0
  · rw [if_pos ⟨Nat.zero_le _, hj, hc⟩, w64 _ (by omega) (by omega)]; omega
  · rw [if_neg (fun q => hc q.2.2)]; omega
/-! ### What Split gives sums up. -/
theorem sum_set : ∀ (x : List Int) (i : Nat) (v : Int), i < x.length → (x.set i v).sum = x.sum - rd x (i : Int) + v
  | [], i, v, h => absurd h (by simp)
  | a :: x, 0, v, _ => by
    rw [List.set_cons_zero, List.sum_cons, List.sum_cons, rd_nat]
    show v + x.sum = a + x.sum - a + v
    omega
  | a :: x, i + 1, v, h => by
    have ih := sum_set x i v (by simpa using h)
    rw [List.set_cons_succ, List.sum_cons, List.sum_cons, ih, rd_nat, rd_nat]
    show a + (x.sum - x.getD i 0 + v) = a + x.sum - x.getD i 0 + v
    omega
theorem incL_sum (o : List Int) : ∀ (d j : Nat) (x : List Int), j + d ≤ o.length → (∀ y ∈ o, 0 ≤ y ∧ y < (x.length : Int)) → (∀ y ∈ x, 0 ≤ y ∧ y + (d : Int) ≤ 4000000000000000) → (incL o d j x).sum = x.sum + (d : Int) ∧ (incL o d j x).length = x.length ∧ ∀ y ∈ incL o d j x, 0 ≤ y ∧ y ≤ 4000000000000000
  | 0, j, x, _, _, hx => ⟨by simp [incL], rfl, fun y hy => by have := hx y hy; omega⟩
  | d + 1, j, x, hj, ho, hx => by
    have hm := ho _ (rd_mem o j (by omega))
    obtain ⟨p, hp⟩ : ∃ p : Nat, rd o (j : Int) = (p : Int) := ⟨(rd o (j : Int)).toNat, by omega⟩
    have hpl : p < x.length := by omega
    have hv := hx _ (rd_mem x p hpl)
    simp only [incL]
    rw [hp, Int.toNat_natCast, w64 _ (by omega) (by omega)]
    obtain ⟨h1, h2, h3⟩ := incL_sum o d (j + 1) (x.set p (rd x (p : Int) + 1)) (by omega) (by rw [List.length_set]; exact ho) (fun y hy => by
      rcases List.mem_or_eq_of_mem_set hy with h | h
      · have := hx y h; omega
      · subst h; omega)
    refine ⟨?_, ?_, h3⟩
    · rw [h1, sum_set x p _ hpl]; omega
    · rw [h2, List.length_set]
/-- What Split answers: the shares, all of the whole. -/
theorem Split_sum {v : Int} {ws : List Int} (h : OkW v ws) (h20 : ws.length < 20) : ∃ sh, share_Split.f v ws = some (sh, none) ∧ sh.sum = v ∧ sh.length = ws.length ∧ ∀ x ∈ sh, 0 ≤ x ∧ x ≤ 4000000000000000 := by
  refine ⟨_, Split_ok h h20, ?_⟩
  have hl := h.left
  have hv := h.whole
  unfold amt at hv
  have hs := mem_le_sum _ h.fl_nonneg
  obtain ⟨d, hd⟩ : ∃ d : Nat, v - (fls v ws.sum ws).sum = (d : Int) := ⟨(v - (fls v ws.sum ws).sum).toNat, by omega⟩
  rw [hd, Int.toNat_natCast]
  obtain ⟨h1, h2, h3⟩ := incL_sum (spO (rss v ws.sum ws)) d 0 (fls v ws.sum ws) (by rw [spO_len, rss_len]; omega) (fun y hy => by
    have := spO_mem _ y hy
    rw [rss_len] at this
    rw [fls_len]; exact this) (fun y hy => by have a := h.fl_nonneg y hy; have b := hs y hy; omega)
  exact ⟨by rw [h1]; omega, by rw [h2, fls_len], h3⟩
theorem sumS_take (sh : List Int) (h : ∀ x ∈ sh, 0 ≤ x) (hs : sh.sum ≤ 4000000000000000) : ∀ i : Nat, i ≤ sh.length → sumS sh i = (sh.take i).sum
  | 0, _ => by simp [sumS]
  | i + 1, hi => by
    have h1 := take_sum_le sh h (i + 1)
    have h2 := sum_nonneg (sh.take (i + 1)) (fun x hx => h x (List.mem_of_mem_take hx))
    simp only [sumS]
    rw [sumS_take sh h hs i (by omega), take_snoc_sum sh i (by omega)]
    rw [take_snoc_sum sh i (by omega)] at h1 h2
    rw [w64 _ (by omega) (by omega)]
/-! ### The table's losses. -/
def smallT (T : Int → Int → Int) : Prop := ∀ s m, 0 ≤ T s m ∧ T s m < 100000
def smallN (n : List Int) : Prop := ∀ x ∈ n, 0 ≤ x ∧ x < 1000
theorem needL_small (ns : List Int) : ∀ i : Nat, smallN (needL ns i)
  | 0 => fun x hx => by simp [needL] at hx
  | i + 1 => fun x hx => by
    simp only [needL, List.mem_append, List.mem_singleton] at hx
    rcases hx with hx | hx
    · exact needL_small ns i x hx
    · subst hx; exact absR_rng _ 1000 (by omega) (by omega)
theorem mx_rng {a b : Int} (ha : a < 100000) (hb0 : 0 ≤ b) (hb : b < 100000) : 0 ≤ mx a b ∧ mx a b < 100000 := by
  unfold mx; split <;> omega
theorem aboL_rng {T : Int → Int → Int} (hT : smallT T) (s : Int) {n : List Int} (hn : smallN n) : ∀ i : Nat, i ≤ n.length → ∀ x ∈ aboL T s n i, 0 ≤ x ∧ x < 100000
  | 0, _, x, hx => by simp [aboL] at hx
  | i + 1, hi, x, hx => by
    simp only [aboL, List.mem_append, List.mem_singleton] at hx
    rcases hx with hx | hx
    · exact aboL_rng hT s hn i (by omega) x hx
    · subst hx
      have h1 := hT s ((i : Int) + 1)
      have h2 := hn _ (rd_mem n i (by omega))
      rw [w64 _ (by omega) (by omega)]
      exact mx_rng (by omega) (by omega) (by omega)
theorem Top_small_l0 (xs : List Int) (hx : ∀ x ∈ xs, 0 ≤ x ∧ x < 100000) (hl : xs.length ≤ 1000) : ∀ (d i k : Nat) (a b : Int), i + d = xs.length → d < k → (0 ≤ a ∧ a < 100000) → (0 ≤ b ∧ b < 100000) → ∃ r, stress_Top.l0 k a b xs (xs.length : Int) (i : Int) = some (r, none) ∧ 0 ≤ r ∧ r < 200000
  | 0, i, k, a, b, h, hk, ha, hb => by
    obtain ⟨k, rfl⟩ : ∃ m, k = m + 1 := ⟨k - 1, by omega⟩
    have e : fix_Add.f a b = some (a + b, true) := by
      rw [Add_eq a b (by unfold In64; omega) (by unfold In64; omega), if_pos (by unfold In64; omega)]
    refine ⟨a + b, ?_, by omega, by omega⟩
    simp only [stress_Top.l0]
    rw [if_neg (by omega), e, Option.bind_some, if_pos rfl, if_neg (by omega)]
  | d + 1, i, k, a, b, h, hk, ha, hb => by
    obtain ⟨k, rfl⟩ : ∃ m, k = m + 1 := ⟨k - 1, by omega⟩
    have hm := hx _ (rd_mem xs i (by omega))
    have hw : wrap64 ((i : Int) + 1) = ((i + 1 : Nat) : Int) := by rw [w64s _ (by omega) (by omega)]; omega
    have ha2 : amtB (rd xs (i : Int)) = true := amtB_t (by unfold amt; omega)
    by_cases c1 : rd xs (i : Int) > a
    · obtain ⟨r, e, h0, h1⟩ := Top_small_l0 xs hx hl d (i + 1) k (rd xs (i : Int)) a (by omega) (by omega) hm ha
      refine ⟨r, ?_, h0, h1⟩
      simp only [stress_Top.l0]
      rw [if_pos (by omega), if_pos (by omega), if_pos (by omega), amountS_b, ha2, Option.bind_some, if_pos rfl, if_pos c1, hw]
      exact e
    · by_cases c2 : rd xs (i : Int) > b
      · obtain ⟨r, e, h0, h1⟩ := Top_small_l0 xs hx hl d (i + 1) k a (rd xs (i : Int)) (by omega) (by omega) ha hm
        refine ⟨r, ?_, h0, h1⟩
        simp only [stress_Top.l0]
        rw [if_pos (by omega), if_pos (by omega), if_pos (by omega), amountS_b, ha2, Option.bind_some, if_pos rfl, if_neg c1, if_pos c2, hw]
        exact e
      · obtain ⟨r, e, h0, h1⟩ := Top_small_l0 xs hx hl d (i + 1) k a b (by omega) (by omega) ha hb
        refine ⟨r, ?_, h0, h1⟩
        simp only [stress_Top.l0]
        rw [if_pos (by omega), if_pos (by omega), if_pos (by omega), amountS_b, ha2, Option.bind_some, if_pos rfl, if_neg c1, if_neg c2, hw]
        exact e
theorem smallN_amt {n : List Int} (hn : smallN n) : ∀ x ∈ n, amt x := fun x hx => by
  have := hn x hx
  unfold amt; omega
theorem two_small {T : Int → Int → Int} (hT : smallT T) (s : Int) (hs : 1 ≤ s ∧ s ≤ 16) {n : List Int} (hn : smallN n) (hl : n.length ≤ 32) (k : Nat) (hk : 100 < k) : ∃ r, twoF k T s n = some (r, none) ∧ 0 ≤ r ∧ r < 200000 := by
  have hx := aboL_rng hT s hn n.length (Nat.le_refl _)
  have hlen := aboL_len T s n n.length
  obtain ⟨r, e, h0, h1⟩ := Top_small_l0 _ hx (by omega) (aboL T s n n.length).length 0 k 0 0 (by omega) (by omega) (by omega) (by omega)
  refine ⟨r, ?_, h0, h1⟩
  unfold twoF
  rw [if_pos ⟨hl, hs, any_amt n (smallN_amt hn)⟩]
  unfold stress_Top.f
  exact e
theorem cov_small {T : Int → Int → Int} (hT : smallT T) {n : List Int} (hn : smallN n) (hl : n.length ≤ 32) (k : Nat) (hk : 100 < k) : ∀ (d s : Nat) (m b : Int), s + d = 17 → 1 ≤ s → (0 ≤ m ∧ m < 200000) → ∃ c t, covL k T n d s m b = some (c, t) ∧ 0 ≤ c ∧ c < 200000
  | 0, s, m, b, _, _, hm => ⟨m, b, rfl, hm.1, hm.2⟩
  | d + 1, s, m, b, hd, hs, hm => by
    obtain ⟨r, e, h0, h1⟩ := two_small hT (s : Int) (by omega) hn hl k hk
    simp only [covL]
    rw [e, Option.bind_some]
    simp only []
    rw [if_pos trivial]
    by_cases c : r > m
    · rw [if_pos c]
      exact cov_small hT hn hl k hk d (s + 1) r (s : Int) (by omega) (by omega) ⟨h0, h1⟩
    · rw [if_neg c]
      exact cov_small hT hn hl k hk d (s + 1) m b (by omega) (by omega) hm
theorem sum_le (c : Int) (hc : 0 ≤ c) : ∀ l : List Int, (∀ x ∈ l, x ≤ c) → l.sum ≤ c * (l.length : Int)
  | [], _ => by simp
  | x :: l, h => by
    have h1 := sum_le c hc l (fun y hy => h y (List.mem_cons_of_mem _ hy))
    have h2 := h x (List.mem_cons_self ..)
    rw [List.sum_cons, List.length_cons, show c * ((l.length + 1 : Nat) : Int) = c * (l.length : Int) + c by rw [Int.natCast_add, Int.mul_add]; simp]
    omega
theorem sum_ones : ∀ n : Nat, (List.replicate n (1 : Int)).sum = (n : Int)
  | 0 => rfl
  | n + 1 => by rw [List.replicate_succ, List.sum_cons, sum_ones n]; omega
theorem mnmx_rng {c lo top : Int} (h0 : 0 ≤ lo) (h : lo ≤ top) : 0 ≤ mn (mx c lo) top ∧ mn (mx c lo) top ≤ top := by
  unfold mn mx; split <;> split <;> omega
/-- The fund of small losses and needs: what holds of it. -/
theorem size_small {T : Int → Int → Int} (hT : smallT T) {n : List Int} (hn : smallN n) (h0 : 0 < n.length) (hl : n.length ≤ 8) (lo top : Int) (hlo : 0 ≤ lo) (hlt : lo ≤ top) (htop : top ≤ 1000000) : ∃ z, sizeA spF T lo top n = some z ∧ fsOK T lo top n z := by
  have hb := spF_big
  obtain ⟨c, t, hcv, hc0, hc1⟩ := cov_small hT hn (by omega) spF (by omega) 16 1 0 1 (by omega) (by omega) (by omega)
  have hr := mnmx_rng (c := c) hlo hlt
  have key : ∀ ws : List Int, OkW (mn (mx c lo) top) ws → ws.length = n.length → ∃ sh, share_Split.f (mn (mx c lo) top) ws = some (sh, none) ∧ fsOK T lo top n (mn (mx c lo) top, t, sh) := fun ws hw hwl => by
    obtain ⟨sh, e, hs, hlen, hx⟩ := Split_sum hw (by omega)
    refine ⟨sh, e, c, hcv, hlt, rfl, ?_, by show sh.length = n.length; omega, ?_⟩
    · show sumS sh sh.length = _
      rw [sumS_take sh (fun x h => (hx x h).1) (by omega) sh.length (Nat.le_refl _), List.take_length, hs]
    · show (fund_Calls.f [] sh).bind _ = _
      rw [Calls_nil sh (by omega) hx, Option.bind_some]
      exact SameL_self sh (by omega) spF hb
  have c0 := Clamp_ok (amt_of 0 (by omega) (by omega)) (amt_of lo hlo (by omega)) (amt_of top (by omega) (by omega)) hlt
  have c1 := Clamp_ok (amt_of c hc0 (by omega)) (amt_of lo hlo (by omega)) (amt_of top (by omega) (by omega)) hlt
  unfold sizeA
  by_cases hany : (n.any fun n => decide (n > 0)) = true
  · rw [if_pos hany]
    have hs0 : 0 < n.sum := by
      obtain ⟨x, hx, hp⟩ := List.any_eq_true.1 hany
      have := mem_le_sum n (fun x hx => (hn x hx).1) x hx
      have := of_decide_eq_true hp
      omega
    have hs1 := sum_le 1000 (by omega) n (fun x hx => by have := hn x hx; omega)
    obtain ⟨sh, e, hf⟩ := key n ⟨amt_of _ hr.1 (by omega), h0, by omega, smallN_amt hn, hs0, by omega⟩ rfl
    refine ⟨_, ?_, hf⟩
    unfold sizeF
    rw [c0, Option.bind_some]
    simp only []
    rw [if_pos trivial, hcv, Option.bind_some]
    simp only []
    rw [c1, Option.bind_some]
    simp only []
    rw [if_pos trivial, if_neg (by omega), if_pos ⟨by omega, hany⟩, e, Option.bind_some, if_pos rfl]
  · rw [if_neg hany]
    have hany' : (n.any fun n => decide (n > 0)) = false := by simpa using hany
    obtain ⟨sh, e, hf⟩ := key (List.replicate n.length 1) ⟨amt_of _ hr.1 (by omega), by rw [List.length_replicate]; exact h0, by rw [List.length_replicate]; omega, by intro x hx; rw [(List.mem_replicate.1 hx).2]; unfold amt; omega, by rw [sum_ones]; omega, by rw [sum_ones]; omega⟩ (List.length_replicate ..)
    refine ⟨_, ?_, hf⟩
    unfold sizeZ
    rw [c0, Option.bind_some]
    simp only []
    rw [if_pos trivial, hcv, Option.bind_some]
    simp only []
    rw [c1, Option.bind_some]
    simp only []
    rw [if_pos trivial, if_pos ⟨h0, by omega, hany'⟩, e, Option.bind_some, if_pos rfl]
end Go.Proofs.YtcmdhgcaldpioaaDoor.PrFundSizes
namespace Go.Proofs.YtcmdhgcaldpioaaDoor.Pr
open Go.RowKit Go.Proofs.YtcmdhgcaldpioaaDoor.EFundSizes Go.Proofs.YtcmdhgcaldpioaaDoorW.PrintWords Go.Proofs.YtcmdhgcaldpioaaDoorW.PrintLast Go.Proofs.YtcmdhgcaldpioaaDoorW.PrintMore Go.Proofs.YtcmdhgcaldpioaaDoorW.PrintOpen Go.Proofs.YtcmdhgcaldpioaaDoor.PrFundSizes
theorem tabL_small (l : List _) : ∀ i : Nat, smallT (tabL l i)
  | 0 => fun s m => by simp only [tabL]; omega
  | i + 1 => fun s m => by
    simp only [tabL, updT]
    split
    · exact absR_rng _ 100000 (by omega) (by omega)
    · exact tabL_small l i s m
theorem FundSizes : pledgelaw24_FundSizes.Pure := by
  intro l a1 a2 ns _ _ _ _ _ _
  unfold pledgelaw24_FundSizes.f
  rw [first24, Option.bind_some, if_pos rfl]
  by_cases h1 : 30 < l.length ∨ 8 < ns.length ∨ ns.length = 0
  · rw [if_pos h1]
  rw [if_neg h1]
  have r1 := numW_rng a1 100000 (by omega) (by omega)
  have r2 := numW_rng a2 100000 (by omega) (by omega)
  have e : wrap64 (numW a1 100000 + numW a2 100000) = numW a1 100000 + numW a2 100000 := w64s _ (by omega) (by omega)
  rw [e]
  obtain ⟨z, hz, hf⟩ := size_small (tabL_small l l.length) (needL_small ns ns.length) (by rw [needL_len]; omega) (by rw [needL_len]; omega) (numW a1 100000) (numW a1 100000 + numW a2 100000) r1.1 (by omega) (by omega)
  rw [hz, Option.bind_some, if_pos hf]
end Go.Proofs.YtcmdhgcaldpioaaDoor.Pr
