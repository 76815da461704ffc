/- Whatever rates are set: each one, which there are, any amount in the base, or why not, are what the chapter says: the pure statement of FxPlays, for all rows. Conditions: none beyond the statement's own. -/
import Derived.Test.YtambndaimehpmaaDoorEFxPlaysx
import Derived.Test.YtambndaimehpmaaDoorOpen
namespace Go.Proofs.YtambndaimehpmaaDoor.PrFxPlays
open Go.RowKit Go.Proofs.YtambndaimehpmaaDoor.EFxPlays Go.Proofs.YtambndaimehpmaaDoorW.PrintWords Go.Proofs.YtambndaimehpmaaDoorW.PrintLast Go.Proofs.YtambndaimehpmaaDoorW.PrintMore Go.Proofs.YtambndaimehpmaaDoorW.PrintOpen
set_option linter.unusedSimpArgs false
set_option linter.unusedVariables false
theorem w64 (x : Int) (h1 : -9223372036854775808 ≤ x) (h2 : x ≤ 9223372036854775807) : wrap64 x = x := by unfold wrap64; omega
theorem w64s (x : Int) (h1 : -1000000000 ≤ x) (h2 : x ≤ 1000000000) : wrap64 x = x := by unfold wrap64; omega
theorem wu64 (n : Int) : IntKind.u64.wrap n = n % 18446744073709551616 := by simp [IntKind.wrap, IntKind.bits, IntKind.signed]
theorem rd_nat (l : List Int) (i : Nat) : rd l (i : Int) = l.getD i 0 := by unfold rd; rw [Int.toNat_natCast]
theorem rd_mem (l : List Int) (i : Nat) (h : i < l.length) : rd l (i : Int) ∈ l := by
  rw [rd_nat, List.getD_eq_getElem?_getD, List.getElem?_eq_getElem h]; exact List.getElem_mem h
theorem take_snoc_sum (l : List Int) (i : Nat) (h : i < l.length) : (l.take (i + 1)).sum = (l.take i).sum + rd l (i : Int) := by
  rw [List.take_succ_eq_append_getElem h, List.sum_append, rd_nat, List.getD_eq_getElem?_getD, List.getElem?_eq_getElem h]; simp
theorem and32 (x : Int) (h0 : 0 ≤ x) (h1 : x < 18446744073709551616) : Go.bits .and .u64 x 4294967295 = x % 4294967296 := by
  have := bits_mask .u64 64 (by decide) (fun n a b => by rw [wu64]; omega) 32 (by decide) x h0 (by omega)
  simpa using this
theorem pb (x y : Int) (hx : 0 ≤ x) (hx1 : x < 4294967296) (hy : 0 ≤ y) (hy1 : y < 4294967296) : 0 ≤ x * y ∧ x * y ≤ 18446744065119617025 := by
  refine ⟨Int.mul_nonneg hx hy, ?_⟩
  have := Int.mul_le_mul (show x ≤ 4294967295 by omega) (show y ≤ 4294967295 by omega) hy (by omega)
  omega
theorem split32 (a b : Int) : a * b = (a / 4294967296) * (b / 4294967296) * 18446744073709551616 + ((a / 4294967296) * (b % 4294967296) + (a % 4294967296) * (b / 4294967296)) * 4294967296 + (a % 4294967296) * (b % 4294967296) := by
  have h1 : a = (a / 4294967296) * 4294967296 + a % 4294967296 := by omega
  have h2 : b = (b / 4294967296) * 4294967296 + b % 4294967296 := by omega
  generalize a / 4294967296 = a1 at *
  generalize a % 4294967296 = a0 at *
  generalize b / 4294967296 = b1 at *
  generalize b % 4294967296 = b0 at *
  subst h1 h2
  grind
theorem Wide_eq (a b : Int) (ha0 : 0 ≤ a) (ha1 : a < 18446744073709551616) (hb0 : 0 ≤ b) (hb1 : b < 18446744073709551616) :
    fix_Wide.f a b = some (a * b / 18446744073709551616, a * b % 18446744073709551616) := by
  unfold fix_Wide.f
  simp only [wu64, and32 a ha0 ha1, and32 b hb0 hb1]
  have e := split32 a b
  obtain ⟨q1, q2⟩ := pb (a / 4294967296) (b / 4294967296) (by omega) (by omega) (by omega) (by omega)
  obtain ⟨q3, q4⟩ := pb (a / 4294967296) (b % 4294967296) (by omega) (by omega) (by omega) (by omega)
  obtain ⟨q5, q6⟩ := pb (a % 4294967296) (b / 4294967296) (by omega) (by omega) (by omega) (by omega)
  obtain ⟨q7, q8⟩ := pb (a % 4294967296) (b % 4294967296) (by omega) (by omega) (by omega) (by omega)
  generalize a / 4294967296 * (b / 4294967296) = p11 at *
  generalize a / 4294967296 * (b % 4294967296) = p10 at *
  generalize a % 4294967296 * (b / 4294967296) = p01 at *
  generalize a % 4294967296 * (b % 4294967296) = p00 at *
  generalize a * b = p at *
  rw [and32 _ (by omega) (by omega)]
  congr 2
  omega
def lenTab : ByteArray := ⟨#[0, 1, 2, 2, 3, 3, 3, 3, 4, 4, 4, 4, 4, 4, 4, 4, 5, 5, 5, 5, 5, 5, 5, 5, 5, 5, 5, 5, 5, 5, 5, 5, 6, 6, 6, 6, 6, 6, 6, 6, 6, 6, 6, 6, 6, 6, 6, 6, 6, 6, 6, 6, 6, 6, 6, 6, 6, 6, 6, 6, 6, 6, 6, 6, 7, 7, 7, 7, 7, 7, 7, 7, 7, 7, 7, 7, 7, 7, 7, 7, 7, 7, 7, 7, 7, 7, 7, 7, 7, 7, 7, 7, 7, 7, 7, 7, 7, 7, 7, 7, 7, 7, 7, 7, 7, 7, 7, 7, 7, 7, 7, 7, 7, 7, 7, 7, 7, 7, 7, 7, 7, 7, 7, 7, 7, 7, 7, 7, 8, 8, 8, 8, 8, 8, 8, 8, 8, 8, 8, 8, 8, 8, 8, 8, 8, 8, 8, 8, 8, 8, 8, 8, 8, 8, 8, 8, 8, 8, 8, 8, 8, 8, 8, 8, 8, 8, 8, 8, 8, 8, 8, 8, 8, 8, 8, 8, 8, 8, 8, 8, 8, 8, 8, 8, 8, 8, 8, 8, 8, 8, 8, 8, 8, 8, 8, 8, 8, 8, 8, 8, 8, 8, 8, 8, 8, 8, 8, 8, 8, 8, 8, 8, 8, 8, 8, 8, 8, 8, 8, 8, 8, 8, 8, 8, 8, 8, 8, 8, 8, 8, 8, 8, 8, 8, 8, 8, 8, 8, 8, 8, 8, 8, 8, 8, 8, 8, 8, 8, 8, 8, 8, 8, 8, 8, 8, 8]⟩
set_option maxRecDepth 100000 in
theorem lenTab_dec : ∀ j : Fin 256, 0 < (j : Nat) → (bt lenTab (j : Nat) = 1 ∧ 1 ≤ (j : Nat) ∧ (j : Nat) ≤ 1) ∨ (bt lenTab (j : Nat) = 2 ∧ 2 ≤ (j : Nat) ∧ (j : Nat) ≤ 3) ∨ (bt lenTab (j : Nat) = 3 ∧ 4 ≤ (j : Nat) ∧ (j : Nat) ≤ 7) ∨ (bt lenTab (j : Nat) = 4 ∧ 8 ≤ (j : Nat) ∧ (j : Nat) ≤ 15) ∨ (bt lenTab (j : Nat) = 5 ∧ 16 ≤ (j : Nat) ∧ (j : Nat) ≤ 31) ∨ (bt lenTab (j : Nat) = 6 ∧ 32 ≤ (j : Nat) ∧ (j : Nat) ≤ 63) ∨ (bt lenTab (j : Nat) = 7 ∧ 64 ≤ (j : Nat) ∧ (j : Nat) ≤ 127) ∨ (bt lenTab (j : Nat) = 8 ∧ 128 ≤ (j : Nat) ∧ (j : Nat) ≤ 255) := by decide
theorem lenTab_spec (i : Int) (h0 : 0 < i) (h1 : i < 256) : (bt lenTab i = 1 ∧ 1 ≤ i ∧ i ≤ 1) ∨ (bt lenTab i = 2 ∧ 2 ≤ i ∧ i ≤ 3) ∨ (bt lenTab i = 3 ∧ 4 ≤ i ∧ i ≤ 7) ∨ (bt lenTab i = 4 ∧ 8 ≤ i ∧ i ≤ 15) ∨ (bt lenTab i = 5 ∧ 16 ≤ i ∧ i ≤ 31) ∨ (bt lenTab i = 6 ∧ 32 ≤ i ∧ i ≤ 63) ∨ (bt lenTab i = 7 ∧ 64 ≤ i ∧ i ≤ 127) ∨ (bt lenTab i = 8 ∧ 128 ≤ i ∧ i ≤ 255) := by
  obtain ⟨n, rfl⟩ := Int.eq_ofNat_of_zero_le (show 0 ≤ i by omega)
  have := lenTab_dec ⟨n, by omega⟩ (by show 0 < n; omega)
  simp only at this
  omega
theorem wadd (n a t : Int) (n0 : 0 ≤ n) (n1 : n ≤ 32) (a0 : 0 ≤ a) (a1 : a ≤ 24) (t0 : 1 ≤ t) (t1 : t ≤ 8) : wrap64 ((wrap64 (n + a)) + (wrap64 t)) = n + (a + t) := by
  rw [w64 (n + a) (by omega) (by omega), w64 t (by omega) (by omega), w64 _ (by omega) (by omega)]; omega
theorem Len_j0 (k : Nat) (x n : Int) (hx : 0 < x) (hx1 : x < 4294967296) (hn0 : 0 ≤ n) (hn1 : n ≤ 32) :
    ∃ L : Nat, bits_Len64.j0 (k + 1) x n = some (n + L) ∧ 1 ≤ L ∧ L ≤ 32 ∧ (2 : Int) ^ (L - 1) ≤ x ∧ x < (2 : Int) ^ L := by
  have key : ∀ (i a : Int) (b : Nat), 0 < i → i < 256 → a = (b : Int) → b ≤ 24 → x / (2 : Int) ^ b = i →
      ∃ L : Nat, (some (wrap64 ((wrap64 (n + a)) + (wrap64 (bt lenTab i)))) : Option Int) = some (n + L) ∧ 1 ≤ L ∧ L ≤ b + 8 ∧ (2 : Int) ^ (L - 1) ≤ x ∧ x < (2 : Int) ^ L := by
    intro i a b h0 h1 ha hb hi
    have hp : 0 < (2 : Int) ^ b := Int.pow_pos (by decide)
    have e1 : i * (2 : Int) ^ b ≤ x := by rw [← hi]; exact Int.ediv_mul_le _ (by omega)
    have e2 : x < (i + 1) * (2 : Int) ^ b := by rw [← hi]; exact Int.lt_ediv_add_one_mul_self _ hp
    have sp := lenTab_spec i h0 h1
    generalize bt lenTab i = tv at sp ⊢
    have fin : ∀ t : Nat, tv = t → 1 ≤ t → t ≤ 8 → (2 : Int) ^ (t - 1) ≤ i → i + 1 ≤ (2 : Int) ^ t →
        ∃ L : Nat, (some (wrap64 ((wrap64 (n + a)) + (wrap64 tv))) : Option Int) = some (n + L) ∧ 1 ≤ L ∧ L ≤ b + 8 ∧ (2 : Int) ^ (L - 1) ≤ x ∧ x < (2 : Int) ^ L := by
      clear sp
      intro t ht t1 t8 g0 g1
      refine ⟨b + t, ?_, by omega, by omega, ?_, ?_⟩
      · subst ht
        rw [wadd n a t hn0 hn1 (by rw [ha]; exact Int.natCast_nonneg _) (by rw [ha]; exact_mod_cast hb) (by exact_mod_cast t1) (by exact_mod_cast t8), ha]
        rfl
      · rw [show b + t - 1 = (t - 1) + b by omega, Int.pow_add]
        exact Int.le_trans (Int.mul_le_mul_of_nonneg_right g0 (by omega)) e1
      · rw [show b + t = t + b by omega, Int.pow_add]
        exact Int.lt_of_lt_of_le e2 (Int.mul_le_mul_of_nonneg_right g1 (by omega))
    rcases sp with h | h | h | h | h | h | h | h
    · exact fin 1 h.1 (by omega) (by omega) (by simp; omega) (by simp; omega)
    · exact fin 2 h.1 (by omega) (by omega) (by simp; omega) (by simp; omega)
    · exact fin 3 h.1 (by omega) (by omega) (by simp; omega) (by simp; omega)
    · exact fin 4 h.1 (by omega) (by omega) (by simp; omega) (by simp; omega)
    · exact fin 5 h.1 (by omega) (by omega) (by simp; omega) (by simp; omega)
    · exact fin 6 h.1 (by omega) (by omega) (by simp; omega) (by simp; omega)
    · exact fin 7 h.1 (by omega) (by omega) (by simp; omega) (by simp; omega)
    · exact fin 8 h.1 (by omega) (by omega) (by simp; omega) (by simp; omega)
  rw [bits_Len64.j0]
  by_cases c1 : x ≥ 65536
  · rw [if_pos c1]
    by_cases c2 : x / 65536 ≥ 256
    · rw [if_pos c2, if_pos (by omega), if_pos (by omega)]
      obtain ⟨L, e, l1, l2, l3, l4⟩ := key (x / 65536 / 256 % 256) 24 24 (by omega) (by omega) rfl (by omega) (by omega)
      refine ⟨L, ?_, l1, by omega, l3, l4⟩
      rw [← e]
      have : wrap64 (wrap64 (n + 16) + 8) = wrap64 (n + 24) := by unfold wrap64; omega
      rw [this]
      rfl
    · rw [if_neg c2, if_pos (by omega), if_pos (by omega)]
      obtain ⟨L, e, l1, l2, l3, l4⟩ := key (x / 65536 % 256) 16 16 (by omega) (by omega) rfl (by omega) (by omega)
      exact ⟨L, e, l1, by omega, l3, l4⟩
  · rw [if_neg c1]
    by_cases c2 : x ≥ 256
    · rw [if_pos c2, if_pos (by omega), if_pos (by omega)]
      obtain ⟨L, e, l1, l2, l3, l4⟩ := key (x / 256 % 256) 8 8 (by omega) (by omega) rfl (by omega) (by omega)
      exact ⟨L, e, l1, by omega, l3, l4⟩
    · rw [if_neg c2, if_pos (by omega), if_pos (by omega)]
      obtain ⟨L, e, l1, l2, l3, l4⟩ := key (x % 256) 0 0 (by omega) (by omega) rfl (by omega) (by omega)
      refine ⟨L, ?_, l1, by omega, l3, l4⟩
      rw [← e]
      have : n = wrap64 (n + 0) := by unfold wrap64; omega
      rw [← this]
      rfl
theorem Len_eq (k : Nat) (x : Int) (hx : 0 < x) (hx1 : x < 18446744073709551616) :
    ∃ L : Nat, bits_Len64.f (k + 1) x = some (L : Int) ∧ 1 ≤ L ∧ L ≤ 64 ∧ (2 : Int) ^ (L - 1) ≤ x ∧ x < (2 : Int) ^ L := by
  unfold bits_Len64.f
  by_cases c : x ≥ 4294967296
  · rw [if_pos c]
    obtain ⟨L, e, l1, l2, l3, l4⟩ := Len_j0 k (x / 4294967296) 32 (by omega) (by omega) (by omega) (by omega)
    refine ⟨32 + L, by rw [e]; simp, by omega, by omega, ?_, ?_⟩
    · rw [show 32 + L - 1 = (L - 1) + 32 by omega, Int.pow_add]
      have : (2 : Int) ^ (L - 1) * 4294967296 ≤ x / 4294967296 * 4294967296 := Int.mul_le_mul_of_nonneg_right l3 (by omega)
      have h32 : (2 : Int) ^ 32 = 4294967296 := by decide
      rw [h32]; omega
    · rw [show 32 + L = L + 32 by omega, Int.pow_add]
      have : (x / 4294967296 + 1) * 4294967296 ≤ (2 : Int) ^ L * 4294967296 := Int.mul_le_mul_of_nonneg_right (by omega) (by omega)
      have h32 : (2 : Int) ^ 32 = 4294967296 := by decide
      rw [h32]; omega
  · rw [if_neg c]
    obtain ⟨L, e, l1, l2, l3, l4⟩ := Len_j0 k x 0 hx (by omega) (by omega) (by omega)
    exact ⟨L, by rw [e]; simp, l1, by omega, l3, l4⟩
/-- The digit's loops: what a guess q of the quotient of n = U * 2^32 + u by y = a * 2^32 + b tells. -/
structure Guess (U u a b q r : Int) : Prop where
  e : r = U - q * a
  r0 : 0 ≤ r
  r1 : r < 4294967296
  lo : (U * 4294967296 + u) / (a * 4294967296 + b) ≤ q
  hi : q ≤ 4294967297
structure Div32 (U u a b : Int) : Prop where
  a0 : 2147483648 ≤ a
  a1 : a < 4294967296
  b0 : 0 ≤ b
  b1 : b < 4294967296
  u0 : 0 ≤ u
  u1 : u < 4294967296
  U0 : 0 ≤ U
  U1 : U < a * 4294967296 + b
theorem Guess.key {U u a b q r : Int} (g : Guess U u a b q r) : U * 4294967296 + u - q * (a * 4294967296 + b) = r * 4294967296 + u - q * b := by
  rw [g.e]; grind
/-- A guess that passes the test is the digit. -/
theorem Guess.done {U u a b q r : Int} (d : Div32 U u a b) (g : Guess U u a b q r) (h : q * b ≤ r * 4294967296 + u) : q = (U * 4294967296 + u) / (a * 4294967296 + b) := by
  have hk := g.key
  have hy : 0 < a * 4294967296 + b := by have := d.a0; have := d.b0; omega
  have : q ≤ (U * 4294967296 + u) / (a * 4294967296 + b) := (Int.le_ediv_iff_mul_le hy).2 (by omega)
  exact Int.le_antisymm this g.lo
/-- One that fails it is too great. -/
theorem Guess.fails {U u a b q r : Int} (d : Div32 U u a b) (g : Guess U u a b q r) (h : 4294967296 ≤ q ∨ r * 4294967296 + u < q * b) : (U * 4294967296 + u) / (a * 4294967296 + b) ≤ q - 1 := by
  have hk := g.key
  have hy : 0 < a * 4294967296 + b := by have := d.a0; have := d.b0; omega
  have : (U * 4294967296 + u) / (a * 4294967296 + b) < q := by
    rcases h with h | h
    · have h1 : (U * 4294967296 + u) / (a * 4294967296 + b) < 4294967296 := (Int.ediv_lt_iff_lt_mul hy).2 (by have := d.U1; have := d.u1; omega)
      omega
    · exact (Int.ediv_lt_iff_lt_mul hy).2 (by omega)
  omega
/-- The last guess, where what is left would be beyond a digit. -/
theorem Guess.over {U u a b q r : Int} (d : Div32 U u a b) (g : Guess U u a b q r) (h : 4294967296 ≤ q ∨ r * 4294967296 + u < q * b) (hr : 4294967296 ≤ r + a) :
    q - 1 = (U * 4294967296 + u) / (a * 4294967296 + b) := by
  have h1 := g.fails d h
  have hk := g.key
  have hy : 0 < a * 4294967296 + b := by have := d.a0; have := d.b0; omega
  have hb : (q - 1) * b ≤ 18446744073709551616 - 4294967296 := by
    have h2 : q - 1 ≤ 4294967296 := by have := g.hi; omega
    have h3 : (q - 1) * b ≤ 4294967296 * b := Int.mul_le_mul_of_nonneg_right h2 d.b0
    have := d.b1; omega
  have e : (q - 1) * (a * 4294967296 + b) = q * (a * 4294967296 + b) - a * 4294967296 - b := by grind
  have e2 : (q - 1) * b = q * b - b := by grind
  have : q - 1 ≤ (U * 4294967296 + u) / (a * 4294967296 + b) := (Int.le_ediv_iff_mul_le hy).2 (by have := d.u0; omega)
  omega
theorem Guess.next {U u a b q r : Int} (d : Div32 U u a b) (g : Guess U u a b q r) (h : 4294967296 ≤ q ∨ r * 4294967296 + u < q * b) (hr : r + a < 4294967296) : Guess U u a b (q - 1) (r + a) :=
  ⟨by rw [g.e]; grind, by have := g.r0; have := d.a0; omega, hr, g.fails d h, by have := g.hi; omega⟩
theorem Guess.first {U u a b : Int} (d : Div32 U u a b) : Guess U u a b (U / a) (U - U / a * a) := by
  have ha : 0 < a := by have := d.a0; omega
  have h1 : U - U / a * a = U % a := by have := Int.emod_def U a; rw [this]; grind
  have hy : 0 < a * 4294967296 + b := by have := d.a0; have := d.b0; omega
  refine ⟨rfl, by rw [h1]; exact Int.emod_nonneg _ (by omega), by rw [h1]; have := Int.emod_lt_of_pos U ha; have := d.a1; omega, ?_, ?_⟩
  · have h2 : (U * 4294967296 + u) / (a * 4294967296 + b) < U / a + 1 := by
      refine (Int.ediv_lt_iff_lt_mul hy).2 ?_
      have h3 : U < (U / a + 1) * a := Int.lt_ediv_add_one_mul_self U ha
      have h4 : 0 ≤ U / a := Int.ediv_nonneg d.U0 (by omega)
      have h5 : 0 ≤ (U / a + 1) * b := Int.mul_nonneg (by omega) d.b0
      have h6 : (U / a + 1) * (a * 4294967296 + b) = (U / a + 1) * a * 4294967296 + (U / a + 1) * b := by grind
      have := d.u1
      omega
    omega
  · have h2 : U / a < 4294967298 := by
      refine (Int.ediv_lt_iff_lt_mul ha).2 ?_
      have := d.U1; have := d.b1; have := d.a0
      omega
    omega
theorem qb_small {U u a b q r : Int} (d : Div32 U u a b) (g : Guess U u a b q r) (hq : ¬ q ≥ 4294967296) : 0 ≤ q ∧ 0 ≤ q * b ∧ q * b ≤ 18446744065119617025 := by
  have hy : 0 < a * 4294967296 + b := by have := d.a0; have := d.b0; omega
  have h0 : 0 ≤ q := Int.le_trans (Int.ediv_nonneg (by have := d.U0; have := d.u0; omega) (by omega)) g.lo
  exact ⟨h0, pb q b h0 (by omega) d.b0 d.b1⟩
/-- The first digit's loop. -/
theorem l0_digit (y s a b U u un0 : Int) (d : Div32 U u a b) : ∀ (n k : Nat) (q r : Int), (4294967296 - r) ≤ n * a → n * 2 + 2 ≤ k → Guess U u a b q r →
    ∃ k', k - (n * 2 + 2) ≤ k' ∧ bits_Div64.l0 k y s a b U u un0 q r = bits_Div64.j2 k' y s a b U u un0 ((U * 4294967296 + u) / (a * 4294967296 + b)) := by
  intro n
  induction n with
  | zero =>
    intro k q r h1 h2 g
    have := g.r1
    omega
  | succ n ih =>
    intro k q r h1 h2 g
    obtain ⟨k, rfl⟩ : ∃ m, k = m + 1 := ⟨k - 1, by omega⟩
    have hr0 := g.r0
    have hr1 := g.r1
    have hu0 := d.u0
    have hu1 := d.u1
    have ha0 := d.a0
    have ha1 := d.a1
    have hghi := g.hi
    have w1 : IntKind.u64.wrap (IntKind.u64.wrap (4294967296 * r) + u) = r * 4294967296 + u := by rw [wu64, wu64]; omega
    have w2 : IntKind.u64.wrap (r + a) = r + a := by rw [wu64]; omega
    have fail : (4294967296 ≤ q ∨ r * 4294967296 + u < q * b) → 1 ≤ q → ∃ k', k + 1 - ((n + 1) * 2 + 2) ≤ k' ∧ bits_Div64.j1 k y s a b U u un0 q r true = bits_Div64.j2 k' y s a b U u un0 ((U * 4294967296 + u) / (a * 4294967296 + b)) := by
      intro hf hq1
      obtain ⟨k, rfl⟩ : ∃ m, k = m + 1 := ⟨k - 1, by omega⟩
      have w3 : IntKind.u64.wrap (q - 1) = q - 1 := by rw [wu64]; omega
      rw [bits_Div64.j1]
      simp only [if_true]
      rw [w2, w3]
      by_cases ho : r + a ≥ 4294967296
      · rw [if_pos ho, g.over d hf ho]
        exact ⟨k, by omega, rfl⟩
      · rw [if_neg ho]
        have e : ((n + 1 : Nat) : Int) * a = n * a + a := by rw [Int.natCast_add]; grind
        obtain ⟨k', hk', ek⟩ := ih k (q - 1) (r + a) (by omega) (by omega) (g.next d hf (by omega))
        exact ⟨k', by omega, ek⟩
    rw [bits_Div64.l0]
    by_cases hq : q ≥ 4294967296
    · rw [if_pos hq]
      exact fail (.inl hq) (by omega)
    · rw [if_neg hq]
      obtain ⟨q0, qb0, qb1⟩ := qb_small d g hq
      have w4 : IntKind.u64.wrap (q * b) = q * b := by rw [wu64]; omega
      rw [w1, w4]
      by_cases hf : q * b > r * 4294967296 + u
      · rw [decide_eq_true hf]
        refine fail (.inr (by omega)) ?_
        rcases Decidable.em (1 ≤ q) with h | h
        · exact h
        · exfalso
          have : q = 0 := by omega
          subst this
          omega
      · rw [decide_eq_false hf]
        obtain ⟨k, rfl⟩ : ∃ m, k = m + 1 := ⟨k - 1, by omega⟩
        rw [bits_Div64.j1]
        simp only [Bool.false_eq_true, if_false]
        rw [g.done d (by omega)]
        exact ⟨k, by omega, rfl⟩
/-- The second digit's loop, and what is handed back. -/
theorem l1_digit (y s a b U u q1 un21 : Int) (d : Div32 U u a b) (hs : 0 ≤ s) : ∀ (n k : Nat) (q r : Int), (4294967296 - r) ≤ n * a → n * 2 + 2 ≤ k → Guess U u a b q r →
    bits_Div64.l1 k y s a b u q1 r un21 q = some (IntKind.u64.wrap ((IntKind.u64.wrap (q1 * 4294967296)) + (U * 4294967296 + u) / (a * 4294967296 + b)), shr .u64 (IntKind.u64.wrap ((IntKind.u64.wrap ((IntKind.u64.wrap (un21 * 4294967296)) + u)) - (IntKind.u64.wrap ((U * 4294967296 + u) / (a * 4294967296 + b) * y)))) s) := by
  intro n
  induction n with
  | zero =>
    intro k q r h1 h2 g
    have := g.r1
    omega
  | succ n ih =>
    intro k q r h1 h2 g
    obtain ⟨k, rfl⟩ : ∃ m, k = m + 1 := ⟨k - 1, by omega⟩
    have hr0 := g.r0
    have hr1 := g.r1
    have hu0 := d.u0
    have hu1 := d.u1
    have ha0 := d.a0
    have ha1 := d.a1
    have hghi := g.hi
    have w1 : IntKind.u64.wrap (IntKind.u64.wrap (4294967296 * r) + u) = r * 4294967296 + u := by rw [wu64, wu64]; omega
    have w2 : IntKind.u64.wrap (r + a) = r + a := by rw [wu64]; omega
    have fail : (4294967296 ≤ q ∨ r * 4294967296 + u < q * b) → 1 ≤ q → bits_Div64.j4 k y s a b u q1 r un21 q true = some (IntKind.u64.wrap ((IntKind.u64.wrap (q1 * 4294967296)) + (U * 4294967296 + u) / (a * 4294967296 + b)), shr .u64 (IntKind.u64.wrap ((IntKind.u64.wrap ((IntKind.u64.wrap (un21 * 4294967296)) + u)) - (IntKind.u64.wrap ((U * 4294967296 + u) / (a * 4294967296 + b) * y)))) s) := by
      intro hf hq1
      obtain ⟨k, rfl⟩ : ∃ m, k = m + 1 := ⟨k - 1, by omega⟩
      have w3 : IntKind.u64.wrap (q - 1) = q - 1 := by rw [wu64]; omega
      rw [bits_Div64.j4]
      simp only [if_true]
      rw [w2, w3]
      by_cases ho : r + a ≥ 4294967296
      · rw [if_pos ho, if_pos hs, g.over d hf ho]
      · rw [if_neg ho]
        have e : ((n + 1 : Nat) : Int) * a = n * a + a := by rw [Int.natCast_add]; grind
        exact ih k (q - 1) (r + a) (by omega) (by omega) (g.next d hf (by omega))
    rw [bits_Div64.l1]
    by_cases hq : q ≥ 4294967296
    · rw [if_pos hq]
      exact fail (.inl hq) (by omega)
    · rw [if_neg hq]
      obtain ⟨q0, qb0, qb1⟩ := qb_small d g hq
      have w4 : IntKind.u64.wrap (q * b) = q * b := by rw [wu64]; omega
      rw [w1, w4]
      by_cases hf : q * b > r * 4294967296 + u
      · rw [decide_eq_true hf]
        refine fail (.inr (by omega)) ?_
        rcases Decidable.em (1 ≤ q) with h | h
        · exact h
        · exfalso
          have : q = 0 := by omega
          subst this
          omega
      · rw [decide_eq_false hf]
        obtain ⟨k, rfl⟩ : ∃ m, k = m + 1 := ⟨k - 1, by omega⟩
        rw [bits_Div64.j4]
        simp only [Bool.false_eq_true, if_false]
        rw [g.done d (by omega), if_pos hs]
/-- Two digits: the quotient of U * 2^64 + u1 * 2^32 + u0 by y, where y has its highest bit. -/
theorem two_digits (y s a b U u1 u0 : Int) (hy : y = a * 4294967296 + b) (d : Div32 U u1 a b) (h0 : 0 ≤ u0) (h1 : u0 < 4294967296) (hs : 0 ≤ s) (k : Nat) (hk : 20 < k) :
    ∃ Q R, bits_Div64.l0 k y s a b U u1 u0 (U / a) (U - U / a * a) = some (Q, shr .u64 R s) ∧ U * 18446744073709551616 + u1 * 4294967296 + u0 = Q * y + R ∧ 0 ≤ R ∧ R < y ∧ 0 ≤ Q := by
  have ha0 := d.a0
  have ha1 := d.a1
  have hb0 := d.b0
  have hb1 := d.b1
  have hyp : 0 < y := by omega
  have hU0 := d.U0
  have hU1 := d.U1
  have hu0 := d.u0
  have hu1 := d.u1
  have g := Guess.first d
  have gr0 := g.r0
  obtain ⟨k', hk', e⟩ := l0_digit y s a b U u1 u0 d 2 k (U / a) (U - U / a * a) (by omega) (by omega) g
  rw [e]
  obtain ⟨k', rfl⟩ : ∃ m, k' = m + 1 := ⟨k' - 1, by omega⟩
  rw [bits_Div64.j2, if_neg (by omega)]
  have hn : 0 ≤ U * 4294967296 + u1 := by omega
  have q1lt : (U * 4294967296 + u1) / y < 4294967296 := (Int.ediv_lt_iff_lt_mul hyp).2 (by omega)
  have q10 : 0 ≤ (U * 4294967296 + u1) / y := Int.ediv_nonneg hn (by omega)
  have em := Int.emod_def (U * 4294967296 + u1) y
  have er0 : 0 ≤ (U * 4294967296 + u1) % y := Int.emod_nonneg _ (by omega)
  have er1 : (U * 4294967296 + u1) % y < y := Int.emod_lt_of_pos _ hyp
  have ey : y * ((U * 4294967296 + u1) / y) = (U * 4294967296 + u1) / y * y := Int.mul_comm _ _
  rw [ey] at em
  rw [← hy]
  generalize hQ1 : (U * 4294967296 + u1) / y = q1 at *
  generalize hV : (U * 4294967296 + u1) % y = V at *
  have wV : IntKind.u64.wrap ((IntKind.u64.wrap ((IntKind.u64.wrap (U * 4294967296)) + u1)) - (IntKind.u64.wrap (q1 * y))) = V := by
    simp only [wu64]
    generalize q1 * y = p at *
    omega
  rw [wV]
  have hap : 0 < a := by omega
  have va0 : 0 ≤ V / a := Int.ediv_nonneg er0 (by omega)
  have va1 : V / a * a ≤ V := Int.ediv_mul_le _ (by omega)
  have va2 : 0 ≤ V / a * a := Int.mul_nonneg va0 (by omega)
  have va3 : V / a ≤ V := Int.ediv_le_self _ er0
  have wt : IntKind.u64.wrap (Int.tdiv V a) = V / a := by
    rw [wu64, Int.tdiv_eq_ediv_of_nonneg er0]; omega
  rw [wt]
  have wm : IntKind.u64.wrap (V / a * a) = V / a * a := by rw [wu64]; omega
  have wr : IntKind.u64.wrap (V - V / a * a) = V - V / a * a := by rw [wu64]; omega
  rw [wm, wr]
  have d2 : Div32 V u0 a b := ⟨ha0, ha1, hb0, hb1, h0, h1, er0, by omega⟩
  have g2 := Guess.first d2
  have gr2 := g2.r0
  rw [l1_digit y s a b V u0 q1 V d2 hs 2 k' (V / a) (V - V / a * a) (by omega) (by omega) g2, ← hy]
  have n2 : 0 ≤ V * 4294967296 + u0 := by omega
  have q2lt : (V * 4294967296 + u0) / y < 4294967296 := (Int.ediv_lt_iff_lt_mul hyp).2 (by omega)
  have q20 : 0 ≤ (V * 4294967296 + u0) / y := Int.ediv_nonneg n2 (by omega)
  have em2 := Int.emod_def (V * 4294967296 + u0) y
  have fr0 : 0 ≤ (V * 4294967296 + u0) % y := Int.emod_nonneg _ (by omega)
  have fr1 : (V * 4294967296 + u0) % y < y := Int.emod_lt_of_pos _ hyp
  have ey2 : y * ((V * 4294967296 + u0) / y) = (V * 4294967296 + u0) / y * y := Int.mul_comm _ _
  rw [ey2] at em2
  generalize (V * 4294967296 + u0) / y = q2 at *
  generalize (V * 4294967296 + u0) % y = R at *
  have wR : IntKind.u64.wrap ((IntKind.u64.wrap ((IntKind.u64.wrap (V * 4294967296)) + u0)) - (IntKind.u64.wrap (q2 * y))) = R := by
    simp only [wu64]
    generalize q2 * y = p at *
    omega
  have wQ : IntKind.u64.wrap ((IntKind.u64.wrap (q1 * 4294967296)) + q2) = q1 * 4294967296 + q2 := by simp only [wu64]; omega
  rw [wR, wQ]
  refine ⟨_, _, rfl, ?_, fr0, fr1, by omega⟩
  have e3 : (q1 * 4294967296 + q2) * y = q1 * y * 4294967296 + q2 * y := by grind
  rw [e3]
  generalize q2 * y = p2 at *
  generalize q1 * y = p1 at *
  omega
theorem Div64_eq (hi lo y : Int) (h0 : 0 ≤ hi) (h1 : hi < y) (l0 : 0 ≤ lo) (l1 : lo < 18446744073709551616) (y1 : y < 18446744073709551616) (k : Nat) (hk : 30 < k) :
    bits_Div64.f k hi lo y = some ((hi * 18446744073709551616 + lo) / y, (hi * 18446744073709551616 + lo) % y) := by
  unfold bits_Div64.f
  rw [if_neg (by omega), if_neg (by omega)]
  have hy : 0 < y := by omega
  by_cases hz : hi = 0
  · rw [if_pos hz, hz]
    have q0 : 0 ≤ lo / y := Int.ediv_nonneg l0 (by omega)
    have q1 : lo / y ≤ lo := Int.ediv_le_self _ l0
    rw [wu64, Int.tdiv_eq_ediv_of_nonneg l0, Int.tmod_eq_emod_of_nonneg l0]
    have e : (lo / y) % 18446744073709551616 = lo / y := by omega
    rw [e]; simp
  · rw [if_neg hz]
    obtain ⟨k, rfl⟩ : ∃ m, k = m + 1 := ⟨k - 1, by omega⟩
    obtain ⟨L, eL, L1, L64, p1, p2⟩ := Len_eq k y hy y1
    unfold bits_LeadingZeros64.f
    rw [eL]
    simp only [Option.bind_some]
    have ws : IntKind.u64.wrap (wrap64 (64 - (L : Int))) = ((64 - L : Nat) : Int) := by rw [wu64]; unfold wrap64; omega
    have ws2 : IntKind.u64.wrap (64 - ((64 - L : Nat) : Int)) = (L : Int) := by rw [wu64]; omega
    rw [ws, ws2, if_pos (by omega), if_pos (by omega)]
    have esl : ∀ x : Int, shl .u64 x ((64 - L : Nat) : Int) = (x * 2 ^ (64 - L)) % 18446744073709551616 := fun x => by
      unfold shl
      rw [wu64, Int.toNat_natCast, show min (64 - L) IntKind.u64.bits = 64 - L from Nat.min_eq_left (by show 64 - L ≤ 64; omega)]
    have esr : ∀ x : Int, shr .u64 x (L : Int) = x / 2 ^ L := fun x => by
      unfold shr
      rw [Int.toNat_natCast, show min L IntKind.u64.bits = L from Nat.min_eq_left L64]
    have esr2 : ∀ x : Int, shr .u64 x ((64 - L : Nat) : Int) = x / 2 ^ (64 - L) := fun x => by
      unfold shr
      rw [Int.toNat_natCast, show min (64 - L) IntKind.u64.bits = 64 - L from Nat.min_eq_left (by show 64 - L ≤ 64; omega)]
    have hD : (0 : Int) < 2 ^ (64 - L) := Int.pow_pos (by decide)
    have hE : (0 : Int) < 2 ^ L := Int.pow_pos (by decide)
    have hDE : (2 : Int) ^ L * 2 ^ (64 - L) = 18446744073709551616 := by
      rw [← Int.pow_add, show L + (64 - L) = 64 by omega]; decide
    have hDE2 : (2 : Int) ^ (L - 1) * 2 ^ (64 - L) = 9223372036854775808 := by
      rw [← Int.pow_add, show L - 1 + (64 - L) = 63 by omega]; decide
    have hor : ∀ x z : Int, 0 ≤ x → x % 2 ^ (64 - L) = 0 → x < 18446744073709551616 → 0 ≤ z → z < 2 ^ (64 - L) → z < 18446744073709551616 → Go.bits .or .u64 x z = x + z := fun x z a1 a2 a3 a4 a5 a6 =>
      bits_join .u64 64 (by decide) (fun n a b => by rw [wu64]; omega) (64 - L) x z a1 a2 (by omega) a4 a5 (by omega)
    simp only [esl, esr]
    generalize hDd : (2 : Int) ^ (64 - L) = D at *
    generalize hEd : (2 : Int) ^ L = E at *
    generalize (2 : Int) ^ (L - 1) = E2 at *
    have yD1 : y * D < 18446744073709551616 := by
      rw [← hDE]; exact Int.mul_lt_mul_of_pos_right p2 hD
    have yD0 : 9223372036854775808 ≤ y * D := by
      rw [← hDE2]; exact Int.mul_le_mul_of_nonneg_right p1 (by omega)
    have ey : y * D % 18446744073709551616 = y * D := by omega
    rw [ey]
    have hD1 : hi * D ≤ (y - 1) * D := Int.mul_le_mul_of_nonneg_right (by omega) (by omega)
    have hD2 : (y - 1) * D = y * D - D := by grind
    have hD0 : 0 ≤ hi * D := Int.mul_nonneg h0 (by omega)
    have ehi : hi * D % 18446744073709551616 = hi * D := by omega
    rw [ehi]
    have lE0 : 0 ≤ lo / E := Int.ediv_nonneg l0 (by omega)
    have lE1 : lo / E < D := (Int.ediv_lt_iff_lt_mul hE).2 (by rw [Int.mul_comm, hDE]; exact l1)
    have elo : lo * D / 18446744073709551616 = lo / E := by
      rw [← hDE]; exact Int.mul_ediv_mul_of_pos_left lo E hD
    rw [hor (hi * D) (lo / E) hD0 (Int.mul_emod_left _ _) (by omega) lE0 lE1 (by omega), and32 (y * D) (by omega) (by omega), and32 _ (by omega) (by omega)]
    have lD0 : 0 ≤ lo * D := Int.mul_nonneg l0 (by omega)
    rw [if_neg (by omega)]
    have d : Div32 (hi * D + lo / E) (lo * D % 18446744073709551616 / 4294967296) (y * D / 4294967296) (y * D % 4294967296) := ⟨by omega, by omega, by omega, by omega, by omega, by omega, by omega, by omega⟩
    have hap : 0 < y * D / 4294967296 := by omega
    have U0 : 0 ≤ hi * D + lo / E := by omega
    have ua0 : 0 ≤ (hi * D + lo / E) / (y * D / 4294967296) := Int.ediv_nonneg U0 (by omega)
    have ua1 : (hi * D + lo / E) / (y * D / 4294967296) * (y * D / 4294967296) ≤ hi * D + lo / E := Int.ediv_mul_le _ (by omega)
    have ua2 : 0 ≤ (hi * D + lo / E) / (y * D / 4294967296) * (y * D / 4294967296) := Int.mul_nonneg ua0 (by omega)
    have ua3 : (hi * D + lo / E) / (y * D / 4294967296) ≤ hi * D + lo / E := Int.ediv_le_self _ U0
    have wt : IntKind.u64.wrap (Int.tdiv (hi * D + lo / E) (y * D / 4294967296)) = (hi * D + lo / E) / (y * D / 4294967296) := by
      rw [wu64, Int.tdiv_eq_ediv_of_nonneg U0]; omega
    rw [wt]
    have wm : IntKind.u64.wrap ((hi * D + lo / E) / (y * D / 4294967296) * (y * D / 4294967296)) = (hi * D + lo / E) / (y * D / 4294967296) * (y * D / 4294967296) := by rw [wu64]; omega
    have wr : IntKind.u64.wrap (hi * D + lo / E - (hi * D + lo / E) / (y * D / 4294967296) * (y * D / 4294967296)) = hi * D + lo / E - (hi * D + lo / E) / (y * D / 4294967296) * (y * D / 4294967296) := by rw [wu64]; omega
    rw [wm, wr]
    obtain ⟨Q, R, e, eQ, R0, R1, Q0⟩ := two_digits (y * D) ((64 - L : Nat) : Int) (y * D / 4294967296) (y * D % 4294967296) (hi * D + lo / E) (lo * D % 18446744073709551616 / 4294967296) (lo * D % 18446744073709551616 % 4294967296) (by omega) d (by omega) (by omega) (by omega) (k + 1) (by omega)
    rw [e, esr2]
    have hN : (hi * 18446744073709551616 + lo) * D = Q * (y * D) + R := by
      rw [← eQ]
      have e1 : (hi * 18446744073709551616 + lo) * D = hi * D * 18446744073709551616 + lo * D := by grind
      rw [e1]
      generalize hi * D = x at *
      generalize lo * D = z at *
      omega
    have hR : R = (hi * 18446744073709551616 + lo - Q * y) * D := by
      have : (hi * 18446744073709551616 + lo - Q * y) * D = (hi * 18446744073709551616 + lo) * D - Q * (y * D) := by grind
      rw [this, hN]; omega
    generalize hr : hi * 18446744073709551616 + lo - Q * y = r at *
    have r0 : 0 ≤ r := by
      rcases Decidable.em (0 ≤ r) with h | h
      · exact h
      · exfalso
        have : r * D ≤ (-1) * D := Int.mul_le_mul_of_nonneg_right (by omega) (by omega)
        omega
    have r1 : r < y := by
      rcases Decidable.em (r < y) with h | h
      · exact h
      · exfalso
        have : y * D ≤ r * D := Int.mul_le_mul_of_nonneg_right (by omega) (by omega)
        omega
    have eR : R / D = r := by rw [hR]; exact Int.mul_ediv_cancel _ (by omega)
    rw [eR]
    obtain ⟨g1, g2⟩ := (Int.ediv_emod_unique hy).2 (⟨by rw [← hr]; grind, r0, r1⟩ : r + y * Q = hi * 18446744073709551616 + lo ∧ 0 ≤ r ∧ r < y)
    rw [g1, g2]
/-- A product over a number, cut down, or up. -/
def divS (a b c : Int) (up : Bool) : Int := if up = true then -((-(a * b)) / c) else a * b / c
/-- A number of 64 bits with a sign. -/
def In64 (n : Int) : Prop := -9223372036854775808 ≤ n ∧ n ≤ 9223372036854775807
instance (n : Int) : Decidable (In64 n) := by unfold In64; infer_instance
theorem size_eq (a : Int) (h : In64 a) : fix_size.f a = some (if a < 0 then -a else a, decide (a < 0)) := by
  obtain ⟨h0, h1⟩ := h
  unfold fix_size.f
  by_cases hn : a < 0
  · rw [if_pos hn, if_pos hn, decide_eq_true hn, wu64, wu64]
    have : -(a % 18446744073709551616) % 18446744073709551616 = -a := by omega
    rw [this]
  · rw [if_neg hn, if_neg hn, decide_eq_false hn, wu64]
    have : a % 18446744073709551616 = a := by omega
    rw [this]
theorem signed_eq (n : Int) (below : Bool) (h0 : 0 ≤ n) (h1 : n < 18446744073709551616) (k : Nat) :
    fix_signed.f (k + 1) n below = some (if In64 (if below = true then -n else n) then (if below = true then -n else n, true) else (0, false)) := by
  unfold fix_signed.f
  cases below with
  | true =>
    simp only [if_true]
    rw [fix_signed.j0]
    by_cases h : n ≤ 9223372036854775808
    · rw [decide_eq_true h, if_pos rfl, if_pos (by unfold In64; omega)]
      have : wrap64 (-(wrap64 n)) = -n := by unfold wrap64; omega
      rw [this]
    · rw [decide_eq_false h]
      simp only [Bool.false_eq_true, if_false, if_true]
      rw [if_neg (by unfold In64; omega)]
  | false =>
    simp only [Bool.false_eq_true, if_false]
    rw [fix_signed.j0]
    simp only [Bool.false_eq_true, if_false]
    by_cases h : n < 9223372036854775808
    · rw [if_pos h, if_pos (by unfold In64; omega)]
      have : wrap64 n = n := by unfold wrap64; omega
      rw [this]
    · rw [if_neg h, if_neg (by unfold In64; omega)]
theorem or_ne (x y : Int) (x0 : 0 ≤ x) (x1 : x < 18446744073709551616) (y0 : 0 ≤ y) (y1 : y < 18446744073709551616) : (Go.bits .or .u64 x y != 0) = decide (x ≠ 0 ∨ y ≠ 0) := by
  obtain ⟨a, rfl⟩ := Int.eq_ofNat_of_zero_le x0
  obtain ⟨b, rfl⟩ := Int.eq_ofNat_of_zero_le y0
  rw [(bits_nat .u64 64 (by decide) (fun n a b => by rw [wu64]; omega) a b (by omega) (by omega)).2]
  rw [Bool.eq_iff_iff]
  simp only [bne_iff_ne, ne_eq, decide_eq_true_eq]
  have := @Nat.or_eq_zero_iff a b
  omega
theorem neg_div (A c : Int) (hc : 0 < c) : (-A) / c = -(A / c) - (if A % c > 0 then 1 else 0) := by
  have e := Int.emod_add_mul_ediv A c
  have m0 := Int.emod_nonneg A (show c ≠ 0 by omega)
  have m1 := Int.emod_lt_of_pos A hc
  generalize hq : A / c = q at *
  generalize hr : A % c = r at *
  by_cases h : r > 0
  · rw [if_pos h]
    have e2 : c * (-q - 1) = -(c * q) - c := by grind
    exact ((Int.ediv_emod_unique hc).2 (⟨by rw [e2]; omega, by omega, by omega⟩ : (c - r) + c * (-q - 1) = -A ∧ 0 ≤ c - r ∧ c - r < c)).1
  · rw [if_neg h]
    have e2 : c * (-q - 0) = -(c * q) := by grind
    exact ((Int.ediv_emod_unique hc).2 (⟨by rw [e2]; omega, by omega, by omega⟩ : 0 + c * (-q - 0) = -A ∧ (0 : Int) ≤ 0 ∧ (0 : Int) < c)).1
theorem abs_mul (a b : Int) : (if a < 0 then -a else a) * (if b < 0 then -b else b) = if (a < 0) ≠ (b < 0) then -(a * b) else a * b := by
  by_cases h1 : a < 0 <;> by_cases h2 : b < 0 <;> simp [h1, h2] <;> grind
theorem Div_none (a b c : Int) (up : Bool) (k : Nat) (h : c ≤ 0) : fix_Div.f k a b c up = some (0, false) := by
  unfold fix_Div.f; rw [if_pos h]
theorem Div_eq (a b c : Int) (up : Bool) (ha : In64 a) (hb : In64 b) (hc : 0 < c) (hc1 : c ≤ 9223372036854775807) (k : Nat) (hk : 40 < k) :
    fix_Div.f k a b c up = some (if In64 (divS a b c up) then (divS a b c up, true) else (0, false)) := by
  unfold fix_Div.f
  rw [if_neg (by omega), size_eq a ha, size_eq b hb]
  simp only [Option.bind_some]
  have hx0 : 0 ≤ (if a < 0 then -a else a) ∧ (if a < 0 then -a else a) ≤ 9223372036854775808 := by unfold In64 at ha; split <;> omega
  have hy0 : 0 ≤ (if b < 0 then -b else b) ∧ (if b < 0 then -b else b) ≤ 9223372036854775808 := by unfold In64 at hb; split <;> omega
  have hab := abs_mul a b
  generalize hx : (if a < 0 then -a else a) = x at *
  generalize hy : (if b < 0 then -b else b) = y at *
  rw [Wide_eq x y hx0.1 (by omega) hy0.1 (by omega)]
  simp only [Option.bind_some]
  have wc : IntKind.u64.wrap c = c := by rw [wu64]; omega
  rw [wc]
  have A0 : 0 ≤ x * y := Int.mul_nonneg hx0.1 hy0.1
  have A1 : x * y ≤ 9223372036854775808 * 9223372036854775808 := Int.mul_le_mul hx0.2 hy0.2 hy0.1 (by omega)
  have hbe : (decide (a < 0) != decide (b < 0)) = decide ((a < 0) ≠ (b < 0)) := by
    by_cases h1 : a < 0 <;> by_cases h2 : b < 0 <;> simp [h1, h2]
  have hP : a * b = if ((a < 0) ≠ (b < 0)) then -(x * y) else x * y := by
    rw [hab]; split <;> omega
  generalize hA : x * y = A at *
  have hq : A / c * c ≤ A := Int.ediv_mul_le _ (by omega)
  have hr0 : 0 ≤ A % c := Int.emod_nonneg _ (by omega)
  have hq0 : 0 ≤ A / c := Int.ediv_nonneg A0 (by omega)
  have hS : divS a b c up = (if ((a < 0) ≠ (b < 0)) then -(A / c + (if A % c > 0 ∧ up = false then 1 else 0)) else (A / c + (if A % c > 0 ∧ up = true then 1 else 0))) := by
    have hn := neg_div A c hc
    unfold divS
    rw [hP]
    cases up <;> by_cases h : ((a < 0) ≠ (b < 0)) <;> simp only [if_pos h, if_neg h, Bool.false_eq_true, if_false, if_true, and_true, and_false, Int.neg_neg, reduceCtorEq]
    · rw [hn]; split <;> omega
    · omega
    · omega
    · rw [hn]; split <;> omega
  by_cases hbig : A / 18446744073709551616 ≥ c
  · rw [if_pos hbig]
    have h2 : 18446744073709551616 ≤ A / c := (Int.le_ediv_iff_mul_le hc).2 (by omega)
    have hno : ¬ In64 (divS a b c up) := by
      rw [hS]; unfold In64
      split <;> split <;> omega
    rw [if_neg hno]
  · rw [if_neg hbig]
    have em : A / 18446744073709551616 * 18446744073709551616 + A % 18446744073709551616 = A := by omega
    rw [Div64_eq _ _ c (by omega) (by omega) (by omega) (by omega) (by omega) k (by omega), em]
    simp only [Option.bind_some]
    have hq1 : A / c < 18446744073709551616 := (Int.ediv_lt_iff_lt_mul hc).2 (by omega)
    have hj : ∀ below : Bool, (below = true → ((a < 0) ≠ (b < 0))) → (below = false → ¬ ((a < 0) ≠ (b < 0)) ∨ A = 0) →
        fix_Div.j0 k up (A / c) (A % c) below = some (if In64 (divS a b c up) then (divS a b c up, true) else (0, false)) := by
      intro below hb1 hb2
      have hval : divS a b c up = if below = true then -(A / c + (if A % c > 0 ∧ up ≠ below then 1 else 0)) else (A / c + (if A % c > 0 ∧ up ≠ below then 1 else 0)) := by
        rw [hS]
        cases below with
        | true => rw [if_pos (hb1 rfl), if_pos rfl]; cases up <;> simp
        | false =>
          rcases hb2 rfl with h | h
          · simp only [if_neg h, Bool.false_eq_true, if_false]; cases up <;> simp
          · subst h
            simp
      obtain ⟨k, rfl⟩ : ∃ m, k = m + 1 := ⟨k - 1, by omega⟩
      rw [fix_Div.j0]
      obtain ⟨k, rfl⟩ : ∃ m, k = m + 1 := ⟨k - 1, by omega⟩
      have plain : ¬ (A % c > 0 ∧ up ≠ below) → fix_Div.j1 (k + 1) (A / c) below false = some (if In64 (divS a b c up) then (divS a b c up, true) else (0, false)) := by
        intro hn
        rw [fix_Div.j1]
        simp only [Bool.false_eq_true, if_false]
        obtain ⟨k, rfl⟩ : ∃ m, k = m + 1 := ⟨k - 1, by omega⟩
        rw [signed_eq _ below hq0 hq1, hval, if_neg hn, Int.add_zero]
        rfl
      by_cases hr : A % c > 0
      · rw [if_pos hr]
        by_cases hu : up = below
        · have : (up != below) = false := by rw [hu]; simp
          rw [this]; exact plain (fun h => h.2 hu)
        · have : (up != below) = true := by simpa using hu
          rw [this, fix_Div.j1]
          simp only [if_true]
          have hval2 : divS a b c up = if below = true then -(A / c + 1) else (A / c + 1) := by rw [hval]; simp only [if_pos (show A % c > 0 ∧ up ≠ below from ⟨hr, hu⟩)]
          by_cases ho : A / c + 1 = 18446744073709551616
          · have w0 : IntKind.u64.wrap (A / c + 1) = 0 := by rw [wu64, ho]; decide
            rw [w0, if_pos rfl, if_neg (by rw [hval2]; unfold In64; split <;> omega)]
          · have w0 : IntKind.u64.wrap (A / c + 1) = A / c + 1 := by rw [wu64]; omega
            rw [w0, if_neg (by omega)]
            obtain ⟨k, rfl⟩ : ∃ m, k = m + 1 := ⟨k - 1, by omega⟩
            rw [signed_eq _ below (by omega) (by omega), hval2]
            rfl
      · rw [if_neg hr]; exact plain (fun h => hr h.1)
    rw [hbe]
    by_cases hne : ((a < 0) ≠ (b < 0))
    · rw [decide_eq_true hne]
      simp only [if_true]
      rw [or_ne _ _ (by omega) (by omega) (by omega) (by omega)]
      refine hj _ (fun _ => hne) (fun h => .inr ?_)
      have := of_decide_eq_false h
      omega
    · rw [decide_eq_false hne]
      simp only [Bool.false_eq_true, if_false]
      exact hj false (fun h => by simp at h) (fun _ => .inl hne)
theorem step_div (M c b : Nat) (hc : 0 < c) (hb : b < 2) (hr : 2 * (M % c) + b < c) : (2 * M + b) / c = 2 * (M / c) ∧ (2 * M + b) % c = 2 * (M % c) + b := by
  have e : 2 * M + b = c * (2 * (M / c)) + (2 * (M % c) + b) := by have := Nat.div_add_mod M c; grind
  rw [e, Nat.mul_add_div hc, Nat.mul_add_mod, Nat.div_eq_of_lt hr, Nat.mod_eq_of_lt hr]
  exact ⟨rfl, rfl⟩
theorem step_div1 (M c b : Nat) (hc : 0 < c) (hb : b < 2) (hr : c ≤ 2 * (M % c) + b) : (2 * M + b) / c = 2 * (M / c) + 1 ∧ (2 * M + b) % c = 2 * (M % c) + b - c := by
  have hm := Nat.mod_lt M hc
  have e : 2 * M + b = c * (2 * (M / c) + 1) + (2 * (M % c) + b - c) := by have := Nat.div_add_mod M c; grind
  have h2 : 2 * (M % c) + b - c < c := by omega
  rw [e, Nat.mul_add_div hc, Nat.mul_add_mod, Nat.div_eq_of_lt h2, Nat.mod_eq_of_lt h2]
  exact ⟨rfl, rfl⟩
theorem half_div (N n : Nat) : N / 2 ^ n = 2 * (N / 2 ^ (n + 1)) + N / 2 ^ n % 2 := by
  have : N / 2 ^ (n + 1) = N / 2 ^ n / 2 := by rw [Nat.pow_succ, Nat.div_div_eq_div_mul]
  rw [this]; omega
theorem bit_hi (N i : Nat) : N / 2 ^ 64 / 2 ^ i % 2 = N / 2 ^ (64 + i) % 2 := by rw [Nat.div_div_eq_div_mul, ← Nat.pow_add]
theorem bit_lo (N i : Nat) (h : i < 64) : N % 2 ^ 64 / 2 ^ i % 2 = N / 2 ^ i % 2 := by
  rw [← Nat.toNat_testBit, ← Nat.toNat_testBit, Nat.testBit_mod_two_pow, decide_eq_true h, Bool.true_and]
theorem wu64n (n : Nat) (h : n < 2 ^ 64) : IntKind.u64.wrap (n : Int) = (n : Int) := by
  rw [wu64]
  have : n < 18446744073709551616 := h
  omega
theorem u64_nat (a b : Nat) (ha : a < 2 ^ 64) (hb : b < 2 ^ 64) : Go.bits .and .u64 a b = ((a &&& b : Nat) : Int) ∧ Go.bits .or .u64 a b = ((a ||| b : Nat) : Int) :=
  bits_nat .u64 64 (by decide) (fun n a b => by rw [wu64]; omega) a b ha hb
theorem shr_nat (x i : Nat) (hi : i < 64) : shr .u64 (x : Int) (i : Int) = ((x / 2 ^ i : Nat) : Int) := by
  unfold shr
  rw [Int.toNat_natCast, Nat.min_eq_left (show i ≤ IntKind.u64.bits by simp [IntKind.bits]; omega)]
  simp
theorem shl_one (i : Nat) (hi : i < 64) : shl .u64 1 (i : Int) = ((2 ^ i : Nat) : Int) := by
  unfold shl
  rw [Int.toNat_natCast, Nat.min_eq_left (show i ≤ IntKind.u64.bits by simp [IntKind.bits]; omega), Int.one_mul]
  have h : (2 : Nat) ^ i < 2 ^ 64 := Nat.pow_lt_pow_right (by omega) hi
  have := wu64n (2 ^ i) h
  rw [← this]
  simp
theorem and_one (x : Nat) (h : x < 2 ^ 64) : Go.bits .and .u64 (x : Int) 1 = ((x % 2 : Nat) : Int) := by
  have := (u64_nat x 1 h (by decide)).1
  rw [show ((1 : Nat) : Int) = 1 from rfl] at this
  rw [this, Nat.and_one_is_mod]
theorem or_bit (r b : Nat) (hr : r < 2 ^ 63) (hb : b < 2) : Go.bits .or .u64 (IntKind.u64.wrap ((r : Int) * 2)) (b : Int) = ((2 * r + b : Nat) : Int) := by
  have e : (r : Int) * 2 = ((2 * r : Nat) : Int) := by omega
  have h1 : 2 * r < 2 ^ 64 := by omega
  rw [e, wu64n _ h1, (u64_nat (2 * r) b h1 (by omega)).2]
  have := Nat.two_pow_add_eq_or_of_lt (i := 1) (b := b) (by omega) r
  rw [Nat.pow_one] at this
  rw [← this]
theorem or_pow (Q i : Nat) (h : Q * 2 ^ (i + 1) < 2 ^ 64) (hi : i < 64) : Go.bits .or .u64 ((Q * 2 ^ (i + 1) : Nat) : Int) ((2 ^ i : Nat) : Int) = (((2 * Q + 1) * 2 ^ i : Nat) : Int) := by
  have h2 : (2 : Nat) ^ i < 2 ^ 64 := Nat.pow_lt_pow_right (by omega) hi
  rw [(u64_nat _ _ h h2).2]
  have := Nat.two_pow_add_eq_or_of_lt (i := i + 1) (b := 2 ^ i) (Nat.pow_lt_pow_right (by omega) (by omega)) Q
  rw [Nat.mul_comm Q, ← this, Nat.pow_succ]
  congr 1
  grind
theorem q_bd (N c n : Nat) (h : N / 2 ^ 64 / c = 0) : N / 2 ^ n / c * 2 ^ n < 2 ^ 64 := by
  have h1 : N / c < 2 ^ 64 := by
    rw [Nat.div_div_eq_div_mul, Nat.mul_comm, ← Nat.div_div_eq_div_mul] at h
    rcases Nat.div_eq_zero_iff.1 h with h | h
    · exact absurd h (by decide)
    · exact h
  have h2 : N / 2 ^ n / c = N / c / 2 ^ n := by rw [Nat.div_div_eq_div_mul, Nat.mul_comm, ← Nat.div_div_eq_div_mul]
  rw [h2]
  exact Nat.lt_of_le_of_lt (Nat.div_mul_le_self _ _) h1
theorem i_and63 (i : Nat) (h : i < 64) : IntKind.u64.wrap (Go.bits .and .i64 (i : Int) 63) = (i : Int) := by
  have := bits_mask .i64 63 (by decide) (fun n a b => by rw [IntKind.wrap_i64]; omega) 6 (by decide) (i : Int) (by omega) (by omega)
  have e : Go.bits .and .i64 (i : Int) 63 = (i : Int) % 64 := by simpa using this
  rw [e, wu64]; omega
theorem over_bit (N c : Nat) (i : Nat) (hN : N < 2 ^ 128) (hi : i < 128) (k : Nat) (x9 x10 : Int) (x11 : Bool) :
    pledgeref1_over.l0 (k + 1) ((N / 2 ^ 64 : Nat) : Int) ((N % 2 ^ 64 : Nat) : Int) (c : Int) x9 x10 x11 (i : Int) =
    pledgeref1_over.j1 k ((N / 2 ^ 64 : Nat) : Int) ((N % 2 ^ 64 : Nat) : Int) (c : Int) x9 x10 x11 (i : Int) (x10 / 9223372036854775808) ((N / 2 ^ i % 2 : Nat) : Int) := by
  simp only [pledgeref1_over.l0]
  have hH : N / 2 ^ 64 < 2 ^ 64 := by rw [Nat.div_lt_iff_lt_mul (by decide), ← Nat.pow_add]; exact hN
  have hL : N % 2 ^ 64 < 2 ^ 64 := Nat.mod_lt _ (by decide)
  rw [if_pos (by omega)]
  have h0 : 0 ≤ IntKind.u64.wrap (Go.bits .and .i64 (i : Int) 63) := by rw [wu64]; omega
  rw [if_pos h0]
  by_cases h : 64 ≤ i
  · have e1 : wrap64 ((i : Int) - 64) = ((i - 64 : Nat) : Int) := by rw [w64s _ (by omega) (by omega)]; omega
    have e2 : IntKind.u64.wrap ((i - 64 : Nat) : Int) = ((i - 64 : Nat) : Int) := by rw [wu64]; omega
    rw [if_pos (by omega), e1, e2, if_pos (by omega), shr_nat _ _ (by omega), and_one _ (Nat.lt_of_le_of_lt (Nat.div_le_self _ _) hH), bit_hi, show 64 + (i - 64) = i by omega]
  · rw [if_neg (by omega), i_and63 i (by omega), shr_nat _ _ (by omega), and_one _ (Nat.lt_of_le_of_lt (Nat.div_le_self _ _) hL), bit_lo _ _ (by omega)]
theorem over_all (N c : Nat) (hN : N < 2 ^ 128) (hc : 0 < c) (hc2 : c < 2 ^ 63) : ∀ (n : Nat), n ≤ 128 → ∀ (k : Nat) (q : Int) (fits : Bool), 3 * n + 3 < k →
    (fits = true ↔ N / 2 ^ (max n 64) / c = 0) → (fits = true → q = ((N / 2 ^ n / c * 2 ^ n : Nat) : Int)) →
    ∃ q' : Int, pledgeref1_over.l0 k ((N / 2 ^ 64 : Nat) : Int) ((N % 2 ^ 64 : Nat) : Int) (c : Int) q ((N / 2 ^ n % c : Nat) : Int) fits ((n : Int) - 1) = some (q', ((N % c : Nat) : Int), decide (N / 2 ^ 64 / c = 0)) ∧
      (N / 2 ^ 64 / c = 0 → q' = ((N / c : Nat) : Int)) := by
  intro n
  induction n with
  | zero =>
    intro _ k q fits hk hf hq
    obtain ⟨k, rfl⟩ : ∃ m, k = m + 1 := ⟨k - 1, by omega⟩
    simp only [pledgeref1_over.l0]
    rw [if_neg (by omega)]
    have e : N / 2 ^ 0 = N := by simp
    have em : max 0 64 = 64 := rfl
    rw [em] at hf
    rw [e] at hq ⊢
    refine ⟨q, ?_, fun h => ?_⟩
    · have : fits = decide (N / 2 ^ 64 / c = 0) := by rw [Bool.eq_iff_iff, decide_eq_true_eq]; exact hf
      rw [this]
    · rw [hq (hf.2 h)]; simp
  | succ i ih =>
    intro hn k q fits hk hf hq
    have hn' : i < 128 := by omega
    obtain ⟨k, rfl⟩ : ∃ m, k = m + 1 := ⟨k - 1, by omega⟩
    obtain ⟨k1, hk1⟩ : ∃ m, k = m + 1 := ⟨k - 1, by omega⟩
    obtain ⟨k2, hk2⟩ : ∃ m, k1 = m + 1 := ⟨k1 - 1, by omega⟩
    have e1 : ((i + 1 : Nat) : Int) - 1 = (i : Int) := by omega
    have hr := Nat.mod_lt (N / 2 ^ (i + 1)) hc
    have hb : N / 2 ^ i % 2 < 2 := Nat.mod_lt _ (by omega)
    have hM := half_div N i
    have hih := ih (by omega) k2
    rw [e1, over_bit N c i hN hn' k]
    have ht : ((N / 2 ^ (i + 1) % c : Nat) : Int) / 9223372036854775808 = 0 := by
      have : N / 2 ^ (i + 1) % c < 9223372036854775808 := Nat.lt_trans hr hc2
      omega
    have ho := or_bit (N / 2 ^ (i + 1) % c) (N / 2 ^ i % 2) (Nat.lt_trans hr hc2) hb
    have hk' : 3 * i + 3 < k2 := by omega
    rw [ht, hk1]
    simp only [pledgeref1_over.j1]
    rw [if_neg (by omega), ho, hk2]
    simp only [pledgeref1_over.j2]
    have ew : wrap64 ((i : Int) - 1) = (i : Int) - 1 := w64s _ (by omega) (by omega)
    rw [ew]
    clear hk hk1 hk2
    by_cases h : c ≤ 2 * (N / 2 ^ (i + 1) % c) + N / 2 ^ i % 2
    · obtain ⟨d1, d2⟩ := step_div1 (N / 2 ^ (i + 1)) c (N / 2 ^ i % 2) hc hb h
      rw [← hM] at d1 d2
      rw [decide_eq_true (show ((2 * (N / 2 ^ (i + 1) % c) + N / 2 ^ i % 2 : Nat) : Int) ≥ (c : Int) by omega)]
      simp only [if_true]
      have er : IntKind.u64.wrap (((2 * (N / 2 ^ (i + 1) % c) + N / 2 ^ i % 2 : Nat) : Int) - (c : Int)) = ((N / 2 ^ i % c : Nat) : Int) := by
        have hc3 : c < 9223372036854775808 := hc2
        rw [wu64, d2]; omega
      rw [er]
      by_cases h64 : 64 ≤ i
      · rw [if_pos (by omega)]
        refine hih q false hk' ⟨fun x => by simp at x, fun x => ?_⟩ (fun x => by simp at x)
        rw [Nat.max_eq_left h64, d1] at x
        omega
      · have ewi : IntKind.u64.wrap (i : Int) = (i : Int) := by rw [wu64]; omega
        rw [if_neg (by omega), ewi, if_pos (by omega), shl_one i (by omega)]
        have m1 : max i 64 = 64 := Nat.max_eq_right (by omega)
        have m2 : max (i + 1) 64 = 64 := Nat.max_eq_right (by omega)
        rw [m2] at hf
        refine hih _ fits hk' (by rw [m1]; exact hf) (fun x => ?_)
        rw [hq x, or_pow _ _ (q_bd N c (i + 1) (hf.1 x)) (by omega), d1]
    · obtain ⟨d1, d2⟩ := step_div (N / 2 ^ (i + 1)) c (N / 2 ^ i % 2) hc hb (by omega)
      rw [← hM] at d1 d2
      rw [decide_eq_false (show ¬ ((2 * (N / 2 ^ (i + 1) % c) + N / 2 ^ i % 2 : Nat) : Int) ≥ (c : Int) by omega)]
      simp only [Bool.false_eq_true, if_false]
      rw [← d2]
      refine hih q fits hk' ?_ (fun x => ?_)
      · by_cases h64 : 64 ≤ i
        · rw [Nat.max_eq_left (show 64 ≤ i + 1 by omega)] at hf
          rw [Nat.max_eq_left h64, d1, hf]
          omega
        · rw [Nat.max_eq_right (show i + 1 ≤ 64 by omega)] at hf
          rw [Nat.max_eq_right (show i ≤ 64 by omega)]; exact hf
      · rw [hq x, d1, Nat.pow_succ]
        congr 1
        grind
theorem over_eq_ref (N c : Nat) (hN : N < 2 ^ 128) (hc : 0 < c) (hc2 : c < 2 ^ 63) (k : Nat) (hk : 400 < k) :
    ∃ q' : Int, pledgeref1_over.f k ((N / 2 ^ 64 : Nat) : Int) ((N % 2 ^ 64 : Nat) : Int) (c : Int) = some (q', ((N % c : Nat) : Int), decide (N / 2 ^ 64 / c = 0)) ∧ (N / 2 ^ 64 / c = 0 → q' = ((N / c : Nat) : Int)) := by
  have e : N / 2 ^ 128 = 0 := Nat.div_eq_of_lt hN
  have h := over_all N c hN hc hc2 128 (by omega) k 0 true (by omega) (by rw [show max 128 64 = 128 from rfl, e]; simp) (fun _ => by rw [e]; simp)
  rw [e, Nat.zero_mod] at h
  exact h
theorem or32 (x y : Int) (hx : 0 ≤ x) (hx1 : x < 4294967296) (hy : 0 ≤ y) (hy1 : y < 4294967296) : Go.bits .or .u64 (x * 4294967296) y = x * 4294967296 + y := by
  obtain ⟨a, rfl⟩ := Int.eq_ofNat_of_zero_le hx
  obtain ⟨b, rfl⟩ := Int.eq_ofNat_of_zero_le hy
  have e : (a : Int) * 4294967296 = ((2 ^ 32 * a : Nat) : Int) := by omega
  have hb : b < 2 ^ 32 := by omega
  rw [e, (u64_nat (2 ^ 32 * a) b (by omega) (by omega)).2, ← Nat.two_pow_add_eq_or_of_lt hb a]
  omega
theorem RWide_eq (a b : Int) (ha0 : 0 ≤ a) (ha1 : a < 18446744073709551616) (hb0 : 0 ≤ b) (hb1 : b < 18446744073709551616) :
    pledgeref1_Wide.f a b = some (a * b / 18446744073709551616, a * b % 18446744073709551616) := by
  unfold pledgeref1_Wide.f
  simp only [wu64, and32 a ha0 ha1, and32 b hb0 hb1]
  have e := split32 a b
  obtain ⟨q1, q2⟩ := pb (a / 4294967296) (b / 4294967296) (by omega) (by omega) (by omega) (by omega)
  obtain ⟨q3, q4⟩ := pb (a / 4294967296) (b % 4294967296) (by omega) (by omega) (by omega) (by omega)
  obtain ⟨q5, q6⟩ := pb (a % 4294967296) (b / 4294967296) (by omega) (by omega) (by omega) (by omega)
  obtain ⟨q7, q8⟩ := pb (a % 4294967296) (b % 4294967296) (by omega) (by omega) (by omega) (by omega)
  generalize a / 4294967296 * (b / 4294967296) = p11 at *
  generalize a / 4294967296 * (b % 4294967296) = p10 at *
  generalize a % 4294967296 * (b / 4294967296) = p01 at *
  generalize a % 4294967296 * (b % 4294967296) = p00 at *
  generalize a * b = p at *
  clear ha0 ha1 hb0 hb1
  rw [Int.emod_eq_of_lt q7 (show p00 < 18446744073709551616 by omega), and32 p00 (by omega) (by omega)]
  rw [Int.emod_eq_of_lt (show 0 ≤ p10 by omega) (show p10 < 18446744073709551616 by omega)]
  rw [Int.emod_eq_of_lt (show 0 ≤ p10 + p00 / 4294967296 by omega) (show p10 + p00 / 4294967296 < 18446744073709551616 by omega)]
  rw [and32 (p10 + p00 / 4294967296) (by omega) (by omega)]
  rw [Int.emod_eq_of_lt (show 0 ≤ p01 by omega) (show p01 < 18446744073709551616 by omega)]
  generalize hm : p10 + p00 / 4294967296 = m at *
  rw [Int.emod_eq_of_lt (show 0 ≤ p01 + m % 4294967296 by omega) (show p01 + m % 4294967296 < 18446744073709551616 by omega)]
  generalize hn : p01 + m % 4294967296 = n at *
  have en : n * 4294967296 % 18446744073709551616 = n % 4294967296 * 4294967296 := by omega
  rw [en, or32 _ _ (by omega) (by omega) (by omega) (by omega)]
  congr 2
  · omega
  · omega
theorem Rsize_eq (a : Int) (h : In64 a) : pledgeref1_size.f a = some (if a < 0 then -a else a) := by
  obtain ⟨h0, h1⟩ := h
  unfold pledgeref1_size.f
  by_cases hn : a < 0
  · rw [if_pos hn, if_pos hn, w64 (a + 1) (by omega) (by omega), w64 _ (by omega) (by omega), wu64, wu64]
    congr 1; omega
  · rw [if_neg hn, if_neg hn, wu64]
    congr 1; omega
theorem Rsigned_eq (neg : Bool) (n : Int) (h0 : 0 ≤ n) (h1 : n < 18446744073709551616) :
    pledgeref1_signed.f neg n = some (if In64 (if neg = true then -n else n) then (if neg = true then -n else n, true) else (0, false)) := by
  unfold pledgeref1_signed.f
  cases neg with
  | true =>
    simp only [if_true]
    by_cases h : n > 9223372036854775808
    · have : ¬ In64 (-n) := by unfold In64; omega
      rw [if_pos h, if_neg this]
    · have : In64 (-n) := by unfold In64; omega
      rw [if_neg h, if_pos this]
      by_cases hz : n = 0
      · subst hz; rfl
      · rw [if_neg hz, wu64]
        congr 2
        have e : (n - 1) % 18446744073709551616 = n - 1 := by omega
        rw [e, w64 (n - 1) (by omega) (by omega), w64 (-(n - 1)) (by omega) (by omega), w64 _ (by omega) (by omega)]
        omega
  | false =>
    simp only [Bool.false_eq_true, if_false]
    by_cases h : n > 9223372036854775807
    · have : ¬ In64 n := by unfold In64; omega
      rw [if_pos h, if_neg this]
    · have : In64 n := by unfold In64; omega
      rw [if_neg h, if_pos this, w64 n (by omega) (by omega)]
theorem RDiv_none (a b c : Int) (up : Bool) (k : Nat) (h : c ≤ 0) : pledgeref1_Div.f k a b c up = some (0, false) := by
  unfold pledgeref1_Div.f; rw [if_pos h]
theorem RDiv_j0 (k : Nat) (neg b : Bool) (q : Int) (h0 : 0 ≤ q) (h1 : q < 18446744073709551616) :
    pledgeref1_Div.j0 (k + 1) neg q b = some (if In64 (if neg = true then -(q + if b = true then 1 else 0) else q + if b = true then 1 else 0) then (if neg = true then -(q + if b = true then 1 else 0) else q + if b = true then 1 else 0, true) else (0, false)) := by
  simp only [pledgeref1_Div.j0]
  cases b with
  | true =>
    simp only [if_true]
    by_cases hq : q = 18446744073709551615
    · have : ¬ In64 (if neg = true then -(q + 1) else q + 1) := by unfold In64; split <;> omega
      rw [if_pos hq, if_neg this]
    · have e : IntKind.u64.wrap (q + 1) = q + 1 := by rw [wu64]; omega
      rw [if_neg hq, e, Rsigned_eq neg (q + 1) (by omega) (by omega)]
      rfl
  | false =>
    simp only [Bool.false_eq_true, if_false, Int.add_zero]
    rw [Rsigned_eq neg q h0 h1]
    rfl
/-- The quotient by its size and its side. -/
theorem divS_size (a b c : Int) (up : Bool) (hc : 0 < c) (P : Int) (hP : P = (if a < 0 then -a else a) * (if b < 0 then -b else b)) :
    divS a b c up = if (decide (a < 0) != decide (b < 0)) = true then -(P / c + if P % c ≠ 0 ∧ up = false then 1 else 0) else P / c + if P % c ≠ 0 ∧ up = true then 1 else 0 := by
  have hab := abs_mul a b
  rw [← hP] at hab
  have m0 := Int.emod_nonneg P (show c ≠ 0 by omega)
  have hm : ∀ x : Int, 0 ≤ x → ((x > 0) ↔ x ≠ 0) := fun x h => by omega
  have hn := neg_div P c hc
  unfold divS
  by_cases hneg : (a < 0) ≠ (b < 0)
  · rw [if_pos hneg] at hab
    have e : a * b = -P := by omega
    have e2 : (decide (a < 0) != decide (b < 0)) = true := by
      simp only [bne_iff_ne, ne_eq, decide_eq_decide]; intro x; exact hneg (propext x)
    rw [if_pos e2, e, Int.neg_neg, hn]
    cases up with
    | true => simp
    | false =>
      simp only [Bool.false_eq_true, if_false, and_true]
      by_cases hz : P % c = 0
      · simp [hz]
      · rw [if_pos (by omega), if_pos hz]; omega
  · rw [if_neg hneg] at hab
    have e2 : ¬ (decide (a < 0) != decide (b < 0)) = true := by
      simp only [bne_iff_ne, ne_eq, decide_eq_decide, Decidable.not_not]
      exact iff_of_eq (Decidable.not_not.1 hneg)
    rw [if_neg e2, ← hab]
    cases up with
    | true =>
      simp only [if_true, and_true]
      rw [hn]
      by_cases hz : P % c = 0
      · simp [hz]
      · rw [if_pos (by omega), if_pos hz]; omega
    | false => simp
theorem RDiv_eq (a b c : Int) (up : Bool) (ha : In64 a) (hb : In64 b) (hc : 0 < c) (hc1 : c ≤ 9223372036854775807) (k : Nat) (hk : 401 < k) :
    pledgeref1_Div.f k a b c up = some (if In64 (divS a b c up) then (divS a b c up, true) else (0, false)) := by
  unfold pledgeref1_Div.f
  rw [if_neg (by omega), Rsize_eq a ha, Rsize_eq b hb]
  simp only [Option.bind_some]
  have ha' : 0 ≤ (if a < 0 then -a else a) ∧ (if a < 0 then -a else a) ≤ 9223372036854775808 := by obtain ⟨h0, h1⟩ := ha; split <;> omega
  have hb' : 0 ≤ (if b < 0 then -b else b) ∧ (if b < 0 then -b else b) ≤ 9223372036854775808 := by obtain ⟨h0, h1⟩ := hb; split <;> omega
  rw [RWide_eq _ _ ha'.1 (by omega) hb'.1 (by omega)]
  have hd := divS_size a b c up hc _ rfl
  have hP0 : 0 ≤ (if a < 0 then -a else a) * (if b < 0 then -b else b) := Int.mul_nonneg ha'.1 hb'.1
  have hP1 : (if a < 0 then -a else a) * (if b < 0 then -b else b) ≤ 9223372036854775808 * 9223372036854775808 := Int.mul_le_mul ha'.2 hb'.2 hb'.1 (by omega)
  generalize (if a < 0 then -a else a) * (if b < 0 then -b else b) = P at *
  clear ha' hb'
  obtain ⟨N, rfl⟩ := Int.eq_ofNat_of_zero_le hP0
  obtain ⟨C, rfl⟩ := Int.eq_ofNat_of_zero_le (show 0 ≤ c by omega)
  have hN : N < 2 ^ 128 := by
    have : (N : Int) < 340282366920938463463374607431768211456 := by omega
    have h2 : N < 340282366920938463463374607431768211456 := by omega
    exact h2
  obtain ⟨q, ho, hq⟩ := over_eq_ref N C hN (by omega) (by omega) k (by omega)
  simp only [Option.bind_some]
  have e1 : (N : Int) / 18446744073709551616 = ((N / 2 ^ 64 : Nat) : Int) := by rw [Int.natCast_ediv]; rfl
  have e2 : (N : Int) % 18446744073709551616 = ((N % 2 ^ 64 : Nat) : Int) := by rw [Int.natCast_emod]; rfl
  have e3 : IntKind.u64.wrap (C : Int) = (C : Int) := by rw [wu64]; omega
  rw [e1, e2, e3, ho]
  simp only [Option.bind_some]
  obtain ⟨k', hk'⟩ : ∃ m, k = m + 1 := ⟨k - 1, by omega⟩
  have hj := fun neg b q h0 h1 => RDiv_j0 k' neg b q h0 h1
  rw [← hk'] at hj
  have hr : ((N % C : Nat) : Int) = (N : Int) % (C : Int) := Int.natCast_emod N C
  have hqd : ((N / C : Nat) : Int) = (N : Int) / (C : Int) := Int.natCast_ediv N C
  have hdd : N / 2 ^ 64 / C = N / C / 2 ^ 64 := by rw [Nat.div_div_eq_div_mul, Nat.mul_comm, ← Nat.div_div_eq_div_mul]
  by_cases hz : N / 2 ^ 64 / C = 0
  · rw [decide_eq_true hz]
    simp only [if_true]
    have hqq := hq hz
    have hb1 : N / C < 18446744073709551616 := by
      rw [hdd] at hz
      rcases Nat.div_eq_zero_iff.1 hz with h | h
      · exact absurd h (by decide)
      · exact h
    have hq0 : 0 ≤ q := by omega
    have hq1 : q < 18446744073709551616 := by omega
    rw [hd, ← hqd, ← hr, ← hqq]
    have hjj := fun neg b => hj neg b q hq0 hq1
    clear ho hr hd hj
    generalize (decide (a < 0) != decide (b < 0)) = neg
    generalize ((N % C : Nat) : Int) = R
    by_cases hrz : R = 0
    · rw [if_pos hrz, hjj]
      simp [hrz]
    · rw [if_neg hrz, hjj]
      cases neg <;> cases up <;> simp [hrz]
  · rw [decide_eq_false hz]
    simp only [Bool.false_eq_true, if_false]
    have hbig : 18446744073709551616 ≤ N / C := by
      rw [hdd] at hz
      have hz' : ¬ (N / C < 2 ^ 64) := fun h => hz (Nat.div_eq_of_lt h)
      have : (2 : Nat) ^ 64 = 18446744073709551616 := by decide
      omega
    have hni : ¬ In64 (divS a b (C : Int) up) := by
      rw [hd, ← hqd]
      unfold In64
      repeat' split
      all_goals omega
    rw [if_neg hni]
theorem within_eq (a m : Int) : money_within.f a m = some (decide (0 ≤ a ∧ a ≤ m)) := by
  unfold money_within.f
  by_cases h : a ≥ 0
  · rw [if_pos h]; exact congrArg some (decide_eq_decide.2 (by omega))
  · rw [if_neg h, decide_eq_false (by omega)]
/-- What is not above the greatest amount. -/
def ov (n : Int) : Int × Option Int := if n ≤ 1000000000000000 then (n, none) else (0, some 104)
theorem over_eq (a b c : Int) (up : Bool) (ha : In64 a) (hb : In64 b) (hc : 0 < c) (hc1 : c ≤ 9223372036854775807) (h0 : 0 ≤ divS a b c up) (k : Nat) (hk : 40 < k) :
    money_over.f k a b c up = some (ov (divS a b c up)) := by
  unfold money_over.f ov
  rw [Div_eq a b c up ha hb hc hc1 k hk]
  generalize divS a b c up = n at *
  simp only [Option.bind_some]
  by_cases h : In64 n
  · rw [if_pos h]
    simp only [if_true]
    by_cases h2 : n ≤ 1000000000000000
    · rw [if_neg (by omega), if_pos h2]
    · rw [if_pos (by omega), if_neg h2]
  · rw [if_neg h]
    simp only [Bool.false_eq_true, if_false]
    rw [if_neg (by unfold In64 at h; omega)]
theorem down_eq (a b c : Int) (ha : 0 ≤ a) (ha1 : a ≤ 9223372036854775807) (hb : 0 ≤ b) (hb1 : b ≤ 9223372036854775807) (hc : 0 < c) (hc1 : c ≤ 9223372036854775807) (k : Nat) (hk : 40 < k) :
    money_over.f k a b c false = some (ov (a * b / c)) := by
  have e : divS a b c false = a * b / c := by unfold divS; simp
  have h0 : 0 ≤ a * b / c := Int.ediv_nonneg (Int.mul_nonneg ha hb) (by omega)
  rw [over_eq a b c false (by unfold In64; omega) (by unfold In64; omega) hc hc1 (by rw [e]; exact h0) k hk, e]
theorem ov_fit (n : Int) (h : n ≤ 1000000000000000) : ov n = (n, none) := by unfold ov; rw [if_pos h]
theorem Base_full (v r : Int) (k : Nat) (hk : 40 < k) : money_Base.f k v r = some (if (0 ≤ v ∧ v ≤ 1000000000000000) ∧ 0 ≤ r ∧ r ≤ 1000000000 then ov (v * r / 1000000) else (0, some 103)) := by
  unfold money_Base.f
  rw [within_eq, within_eq]
  simp only [Option.bind_some, decide_eq_true_eq]
  by_cases h1 : 0 ≤ v ∧ v ≤ 1000000000000000
  · by_cases h2 : 0 ≤ r ∧ r ≤ 1000000000
    · rw [if_pos h1, if_pos h2, if_pos ⟨h1, h2⟩, down_eq v r 1000000 (by omega) (by omega) (by omega) (by omega) (by omega) (by omega) k hk]
      rfl
    · rw [if_pos h1, if_neg h2, if_neg (fun h => h2 h.2)]
  · rw [if_neg h1, if_neg (fun h => h1 h.1)]
/-- An answer of the program's, and the same of the reference's. -/
def Rel (A : Option (Int × Option Int)) (B : Option (Int × Int)) : Prop := ∃ n e, A = some (n, e) ∧ B = some (n, e.getD 0) ∧ ((e = none) ∨ (e = some 103 ∧ n = 0) ∨ (e = some 104 ∧ n = 0))
theorem Rel.none (n : Int) : Rel (some (n, Option.none)) (some (n, 0)) := ⟨n, Option.none, rfl, rfl, .inl rfl⟩
theorem rel_103 : Rel (some (0, some 103)) (some (0, 103)) := ⟨0, some 103, rfl, rfl, .inr (.inl ⟨rfl, rfl⟩)⟩
theorem rel_104 : Rel (some (0, some 104)) (some (0, 104)) := ⟨0, some 104, rfl, rfl, .inr (.inr ⟨rfl, rfl⟩)⟩
theorem rel_again {A : Option (Int × Option Int)} {B : Option (Int × Int)} (h : Rel A B) : Rel (A.bind fun b => some (b.1, b.2)) (B.bind fun b => some (b.1, b.2)) := by
  obtain ⟨n, e, rfl, rfl, h⟩ := h
  exact ⟨n, e, rfl, rfl, h⟩
theorem Rwithin_eq (a m : Int) : pledgeref1_within.f a m = some (decide (0 ≤ a ∧ a ≤ m)) := within_eq a m
theorem div_same (a b c : Int) (up : Bool) (ha : In64 a) (hb : In64 b) (hc : 0 < c) (hc1 : c ≤ 9223372036854775807) (k : Nat) (hk : 401 < k) : ∃ r, fix_Div.f k a b c up = some r ∧ pledgeref1_Div.f k a b c up = some r :=
  ⟨_, Div_eq a b c up ha hb hc hc1 k (by omega), RDiv_eq a b c up ha hb hc hc1 k hk⟩
theorem capped_rel (a b c : Int) (up : Bool) (ha : In64 a) (hb : In64 b) (hc : 0 < c) (hc1 : c ≤ 9223372036854775807) (k : Nat) (hk : 401 < k) : Rel (money_over.f k a b c up) (pledgeref1_capped.f k a b c up) := by
  unfold money_over.f pledgeref1_capped.f
  obtain ⟨⟨n, is⟩, e1, e2⟩ := div_same a b c up ha hb hc hc1 k hk
  rw [e1, e2]
  simp only [Option.bind_some]
  cases is with
  | false => exact rel_104
  | true =>
    simp only [if_true]
    by_cases h : n > 1000000000000000
    · rw [if_pos h, if_pos h]; exact rel_104
    · rw [if_neg h, if_neg h]; exact Rel.none n
theorem in_amt {v m : Int} (hm : m ≤ 1000000000000000) (h : 0 ≤ v ∧ v ≤ m) : In64 v := by unfold In64; omega
theorem Base_rel (a b : Int) (k : Nat) (hk : 401 < k) : Rel (money_Base.f k a b) (pledgeref1_Base.f k a b) := by
  unfold money_Base.f pledgeref1_Base.f
  simp only [within_eq, Rwithin_eq, Option.bind_some, decide_eq_true_eq]
  by_cases h1 : 0 ≤ a ∧ a ≤ 1000000000000000
  · by_cases h2 : 0 ≤ b ∧ b ≤ 1000000000
    · rw [if_pos h1, if_pos h1, if_pos h2, if_pos h2]
      exact rel_again (capped_rel a b 1000000 false (in_amt (by omega) h1) (in_amt (by omega) h2) (by omega) (by omega) k hk)
    · rw [if_pos h1, if_pos h1, if_neg h2, if_neg h2]; exact rel_103
  · rw [if_neg h1, if_neg h1]; exact rel_103
theorem Is_none (code : Int) : pledgesee_Is.f none code = some (decide (0 = code)) := by
  unfold pledgesee_Is.f pledgeref_Bare.f pledgesee_Same.f pledgesee_Fault.f pledgeref_None.f pledgeref_SameFault.f
  by_cases h : 0 = code <;> simp [h]
theorem Is_some (c code : Int) (h1 : 101 ≤ c) (h2 : c ≤ 121) : pledgesee_Is.f (some c) code = some (decide (c = code)) := by
  unfold pledgesee_Is.f pledgeref_Bare.f pledgesee_Same.f pledgesee_Fault.f pledgesee_sentinel.f pledgeref_Bare.f pledgeref_SameFault.f
  by_cases h : c = code <;> simp [h, h1, h2] <;> simp [← h, h1, h2]
theorem fxF_big : 1000 < fxF := by decide
theorem first13 : pledgelaw13_first.f = some true := by
  unfold pledgelaw13_first.f
  rw [Base_full 5 1000000 fxF (by decide), if_pos (by omega), Option.bind_some]
  rfl
theorem SameI_self (xs : List Int) (hl : xs.length < 1000) (k : Nat) (hk : 1000 < k) : pledgeref_SameInts.f k xs xs = some true := by
  have g : ∀ (d i k : Nat), i + d = xs.length → d < k → pledgeref_SameInts.l0 k xs xs (i : Int) = some true := fun d => by
    induction d with
    | zero =>
      intro i k h hk
      obtain ⟨k, rfl⟩ : ∃ m, k = m + 1 := ⟨k - 1, by omega⟩
      simp only [pledgeref_SameInts.l0]
      rw [if_neg (by omega)]
    | succ d ih =>
      intro i k h hk
      obtain ⟨k, rfl⟩ : ∃ m, k = m + 1 := ⟨k - 1, by omega⟩
      simp only [pledgeref_SameInts.l0]
      rw [if_pos (by omega), if_pos (by omega), if_pos (by omega), if_pos trivial, show wrap64 ((i : Int) + 1) = ((i + 1 : Nat) : Int) by rw [w64s _ (by omega) (by omega)]; omega]
      exact ih (i + 1) k (by omega) (by omega)
  unfold pledgeref_SameInts.f
  rw [if_pos rfl]
  exact g xs.length 0 k (by omega) (by omega)
theorem is_of (e : Option Int) (n : Int) (h : (e = none) ∨ (e = some 103 ∧ n = 0) ∨ (e = some 104 ∧ n = 0)) : pledgesee_Is.f e (e.getD 0) = some true := by
  rcases h with rfl | ⟨rfl, _⟩ | ⟨rfl, _⟩
  · rw [Is_none]; rfl
  · rw [Option.getD_some, Is_some 103 103 (by omega) (by omega)]; rfl
  · rw [Option.getD_some, Is_some 104 104 (by omega) (by omega)]; rfl
theorem play_ok (R : Int → Option Int) (v m : Int) (h : rg64 m) : playOK R v m := by
  have hb := fxF_big
  refine ⟨h, by rw [Is_none]; rfl, by rw [Is_some 103 103 (by omega) (by omega)]; rfl, SameI_self _ (by have := allL_len R 7; omega) fxF hb, ?_⟩
  cases hg : (getR R m).2 with
  | false =>
    refine ⟨0, some 106, by unfold baseR; rw [hg, if_neg (by simp)], fun _ => ⟨rfl, by rw [Is_some 106 106 (by omega) (by omega)]; rfl⟩, fun e => by simp at e⟩
  | true =>
    obtain ⟨n, e, h1, h2, h3⟩ := Base_rel v (getR R m).1 fxF (by omega)
    exact ⟨n, e, by unfold baseR; rw [hg, if_pos rfl]; exact h1, fun e => by simp at e, fun _ => ⟨e.getD 0, h2, is_of e n h3⟩⟩
theorem rg_of {x : Int} (h : Rng .i64 x) : rg64 x := ⟨h.1, h.2⟩
end Go.Proofs.YtambndaimehpmaaDoor.PrFxPlays
namespace Go.Proofs.YtambndaimehpmaaDoor.Pr
open Go.RowKit Go.Proofs.YtambndaimehpmaaDoor.EFxPlays Go.Proofs.YtambndaimehpmaaDoorW.PrintWords Go.Proofs.YtambndaimehpmaaDoorW.PrintLast Go.Proofs.YtambndaimehpmaaDoorW.PrintMore Go.Proofs.YtambndaimehpmaaDoorW.PrintOpen Go.Proofs.YtambndaimehpmaaDoor.PrFxPlays
theorem FxPlays : pledgelaw13_FxPlays.Pure := by
  intro l v m _ _ _ hm
  unfold pledgelaw13_FxPlays.f
  rw [first13, Option.bind_some, if_pos rfl]
  by_cases h : 40 < l.length
  · rw [if_pos h]
  · rw [if_neg h, if_pos (play_ok _ v m (rg_of hm))]
end Go.Proofs.YtambndaimehpmaaDoor.Pr
