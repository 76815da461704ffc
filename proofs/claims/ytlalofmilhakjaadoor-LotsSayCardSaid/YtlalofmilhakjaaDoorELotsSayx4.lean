/- The functions that the law comes to, as plain functions, and for each a proof that the Go code comes to just these answers. Written by a program of this claim. Conditions: each theorem bears its own. -/
import Derived.Test.YtlalofmilhakjaaDoorELotsSayx0
import Derived.Test.YtlalofmilhakjaaDoorELotsSayx3
namespace Go.Proofs.YtlalofmilhakjaaDoor.ELotsSay
open Go.RowKit Go.Proofs.YtlalofmilhakjaaDoorW.PrintWords Go.Proofs.YtlalofmilhakjaaDoorW.PrintLast Go.Proofs.YtlalofmilhakjaaDoorW.PrintMore Go.Proofs.YtlalofmilhakjaaDoorW.PrintOpen
attribute [local go_sem] max2_int min2_int max_two min_two max_three min_three max_four min_four   -- for this text's walks alone
set_option linter.unusedVariables false
set_option linter.unusedSimpArgs false

/-! ### lots_Order: function 28 -/
open Go.Sort (swp insInner insOuter size_swp)
/-! ### A stable sort of a short list of numbers by a function value -/
/-- The world's row of numbers in block blk holds d; below it nothing has turned. -/
structure SrtW (blk m : Nat) (W0 W : World) (d : Array Int) : Prop where
 hb : Below blk W0 W
 row : ∃ cs : Array Value, W.heap[blk]? = some (.cells cs 3 (0, 0)) ∧ cs.size = m ∧ ∀ i, i < d.size → cs[i]? = some (.int .i64 d[i]!)
theorem SrtW.c {blk m : Nat} {W0 W : World} {d : Array Int} (h : SrtW blk m W0 W d) (i : Nat) (hi : i < d.size) : W.cell? ⟨blk, i, none⟩ = some (.int .i64 d[i]!) := by
 obtain ⟨cs, h1, hm, h2⟩ := h.row; rw [blk_cell h1]; exact h2 i hi
theorem SrtW.f {blk m : Nat} {W0 W : World} {d : Array Int} (h : SrtW blk m W0 W d) (i : Nat) : W.frozen? ⟨blk, i, none⟩ = false := by
 obtain ⟨cs, h1, hm, h2⟩ := h.row; exact blk_frozen h1 i
theorem SrtW.lt {blk m : Nat} {W0 W : World} {d : Array Int} (h : SrtW blk m W0 W d) : blk < W.heap.size := by
 obtain ⟨cs, h1, hm, h2⟩ := h.row; exact blk_lt h1
theorem SrtW.below {blk m : Nat} {W0 W W' : World} {d : Array Int} (h : SrtW blk m W0 W d) (hb : Below W.heap.size W W') : SrtW blk m W0 W' d := by
 obtain ⟨cs, h1, hm, h2⟩ := h.row; exact ⟨h.hb.trans (hb.mono (Nat.le_of_lt (blk_lt h1))), cs, (hb.block blk (blk_lt h1)).trans h1, hm, h2⟩
theorem SrtW.drew {blk m : Nat} {W0 W : World} {d : Array Int} (h : SrtW blk m W0 W d) : SrtW blk m W0 W.drew d := h.below (Below.drew (Below.refl _ _))
theorem swp_get (d : Array Int) (i j k : Nat) (hk : k < d.size) : (swp d i j)[k]! = if j = k then d[i]! else if i = k then d[j]! else d[k]! := by
 have hk1 : k < (d.setIfInBounds i d[j]!).size := by rw [Array.size_setIfInBounds]; exact hk
 have hk2 : k < ((d.setIfInBounds i d[j]!).setIfInBounds j d[i]!).size := by rw [Array.size_setIfInBounds]; exact hk1
 unfold swp; rw [getElem!_pos _ k hk2]; have e1 := Array.getElem_setIfInBounds (xs := d) (i := i) (a := d[j]!) (j := k) (by first | exact hk | exact hk1); have e2 := Array.getElem_setIfInBounds (xs := d.setIfInBounds i d[j]!) (i := j) (a := d[i]!) (j := k) (by first | exact hk1 | exact hk2); rw [e2, e1, ← getElem!_pos d k hk]
theorem SrtW.swap {blk m : Nat} {W0 W : World} {d : Array Int} (h : SrtW blk m W0 W d) (i j : Nat) (hi : i < d.size) (hj : j < d.size) :
  SrtW blk m W0 ((W.setCell ⟨blk, i, none⟩ (.int .i64 d[j]!)).setCell ⟨blk, j, none⟩ (.int .i64 d[i]!)).drew (swp d i j) := by
 obtain ⟨cs, h1, hm, h2⟩ := h.row; refine ⟨((h.hb.setCell (p := ⟨blk, i, none⟩) (Nat.le_refl _) _).setCell (p := ⟨blk, j, none⟩) (Nat.le_refl _) _).drew, _, blk_drew (blk_put (blk_put h1 i _ rfl) j _ rfl), by rw [Array.size_setIfInBounds, Array.size_setIfInBounds]; exact hm, ?_⟩; intro k hk; rw [size_swp] at hk; have hc : ∀ q, q < d.size → q < cs.size := fun q hq => (Array.getElem?_eq_some_iff.1 (h2 q hq)).1; rw [Array.getElem?_setIfInBounds, Array.getElem?_setIfInBounds]; rw [swp_get d i j k hk]; by_cases e1 : j = k
 ·
  subst e1
  simp [hc j hk]
 ·
  by_cases e2 : i = k
  ·
   subst e2
   simp [e1, hc i hk]
  · simp only [if_neg e1, if_neg e2, h2 k hk]
/-- A world behind w, nothing of w turned. -/
structure FarW (w : World) where
 W : World
 h : Below w.heap.size w W
instance (w : World) : Inhabited (FarW w) := ⟨⟨w, Below.refl _ _⟩⟩
theorem wp_region_far {P : Program} {id : Nat} {Q : Exit → Act → World → Prop} {a : Act} {w : World} {l : List Oper} (hm : P.follows .mixedOrders = true) (hB : Region.lexB .any l.toArray = true)
  (h : wpQuiet P l.toArray (fun w' => ∃ p : FarW w, w' = p.W) (fun a' => ∀ w', (∃ p : FarW w, w' = p.W) → Q .normal a' w') l a) : (Code.region id l.toArray true).wp P Q a w :=
 wp_region_quiet (C := fun w' => ∃ p : FarW w, w' = p.W) hm hB ⟨⟨w.drew, Below.drew (Below.refl _ _)⟩, rfl⟩ (by simpa using h)
theorem calls_far {P : Program} {f : FuncId} {args : Array Value} {w : World} {p : FarW w} {v : Value}
  (h : Calls P f args p.W fun e w' => e = .returned v ∧ Below p.W.heap.size p.W w') : Calls P f args p.W fun e w'' => e = .returned v ∧ ∃ q : FarW w, w'' = q.W :=
 h.mono fun _ _ ⟨he, hq⟩ => ⟨he, ⟨_, below_step p.h hq⟩, rfl⟩
theorem cell_far {w : World} {a : Addr} {v : Value} (h : w.cell? a = some v) (p : FarW w) : p.W.cell? a = some v := pw_cell_below p.h h
def ltI (cf : Int → Int → Int) (x y : Int) : Bool := decide (cf x y < 0)
/-- What is asked of the function value. -/
def CmpFar (g : Nat) (cb : Array Value) (ok : Int → Prop) (cf : Int → Int → Int) (blk : Nat) (W0 : World) : Prop :=
 ∀ (x y : Int) (W : World), ok x → ok y → Below blk W0 W → Calls Tryd.prog g (#[.int .i64 x, .int .i64 y] ++ cb) W fun e w' => e = .returned (.int .i64 (cf x y)) ∧ Below W.heap.size W w'
theorem CmpFar.call {g : Nat} {cb : Array Value} {ok : Int → Prop} {cf : Int → Int → Int} {blk m : Nat} {W0 W : World} {d : Array Int} (h : CmpFar g cb ok cf blk W0) (S : SrtW blk m W0 W d) {x y : Int} (hx : ok x) (hy : ok y) (p : FarW W) :
  Calls Tryd.prog g (#[.int .i64 x, .int .i64 y] ++ cb) p.W fun e w' => e = .returned (.int .i64 (cf x y)) ∧ Below p.W.heap.size p.W w' := h x y p.W hx hy (S.below p.h).hb
theorem ok_swp {ok : Int → Prop} {d : Array Int} (h : ∀ i, i < d.size → ok d[i]!) (i j : Nat) (hi : i < d.size) (hj : j < d.size) : ∀ k, k < (swp d i j).size → ok (swp d i j)[k]! := by
 intro k hk; rw [size_swp] at hk; rw [swp_get d i j k hk]; by_cases e1 : j = k
 · rw [if_pos e1]; exact h i hi
 ·
  rw [if_neg e1]; by_cases e2 : i = k
  · rw [if_pos e2]; exact h j hj
  · rw [if_neg e2]; exact h k hk
set_option maxHeartbeats 16000000 in
set_option maxRecDepth 1000000 in
theorem ins_sort (cf : Int → Int → Int) (ok : Int → Prop) (g : Nat) (cb : Array Value) (blk m cap a b : Nat) (d : Array Int) (w0 w : World)
  (eg : ∀ (args : Array Value) (W : World), (callFunc g args).run Tryd.prog W = .ok (.enter g args) W) (hcmp : CmpFar g cb ok cf blk w0) (S : SrtW blk m w0 w d) (hok : ∀ i, i < d.size → ok d[i]!) (hab : a ≤ b) (hb : b ≤ d.size) (hsz : d.size < 4611686018427387904) :
  Calls Tryd.prog 56 #[.slice (some ⟨blk, 0, none⟩) d.size cap, .int .i64 a, .int .i64 b, .func (.func g) #[] cb] w fun e w' => e = .returned (.tuple #[]) ∧ SrtW blk m w0 w' (Sort.insertionSort (ltI cf) d a b) := by
 have HC := Aside0.mk hcmp; have S0 := Aside0.mk S; have K0 := Aside0.mk hok; clear S hcmp hok
 go_enter Tryd.func56, Tryd.ntmps56
 go_wp2
 go_loopg [8] (b - a) (fun g1 vi wr => ∃ (i : Nat) (dk : Array Int), vi = .int .i64 i ∧ a < i ∧ i ≤ b + 1 ∧ b + 1 - i ≤ g1 + 1 ∧ dk.size = d.size ∧ Aside0 (SrtW blk m w0 wr dk) ∧ Aside0 (∀ i, i < dk.size → ok dk[i]!) ∧ Hid (insOuter (ltI cf) a b i dk = insOuter (ltI cf) a b (a + 1) d))
 case atStart => exact ⟨a + 1, d, by go_num, by omega, by omega, by omega, rfl, S0, K0, rfl⟩
 case round =>
  clear S0 K0; obtain ⟨i, dk, rfl, hai, hib, hg1, hsk, S1, K1, HO⟩ := hrel; by_cases hlt : i < b
  ·
   have hltz : (i : Int) < (b : Int) := by omega
   go_wp2
   go_loopg [9] i (fun g2 vj wr2 => ∃ (j : Nat) (dj : Array Int), vj = .int .i64 j ∧ a ≤ j ∧ j ≤ i ∧ j ≤ g2 ∧ dj.size = d.size ∧ Aside0 (SrtW blk m w0 wr2 dj) ∧ Aside0 (∀ i, i < dj.size → ok dj[i]!) ∧ Hid (insInner (ltI cf) a j dj = insInner (ltI cf) a i dk))
   case atStart => exact ⟨i, dk, rfl, by omega, Nat.le_refl _, Nat.le_refl _, hsk, S1, K1, rfl⟩
   case round =>
    clear S1 K1; obtain ⟨j, dj, rfl, haj, hji, hg2, hsj, SJ, KJ, HI⟩ := hrel
    have out : (j ≤ a ∨ (ltI cf) dj[j]! dj[j - 1]! = false) → Hid (insOuter (ltI cf) a b (i + 1) dj = insOuter (ltI cf) a b (a + 1) d) := fun hs => by
     show _ = _
     rw [← HO.out, insOuter_go _ _ _ _ _ hlt, ← HI.out, insInner_stop _ _ _ _ hs]
    have OUT := Aside0.mk out; clear out; by_cases hja : a < j
    ·
     have hjaz : (a : Int) < (j : Int) := by omega
     obtain ⟨jp, hjp⟩ : ∃ q, q + 1 = j := ⟨j - 1, by omega⟩; have zjp : (j : Int) = (jp : Int) + 1 := by omega
     have hjad : decide ((jp : Int) + 1 > (a : Int)) = true := decide_eq_true (by omega); have hjaz' : (a : Int) < (jp : Int) + 1 := by omega
     obtain ⟨iN, hiN⟩ : ∃ q, q = j := ⟨_, rfl⟩; obtain ⟨jN, hjN⟩ : ∃ q, q = j - 1 := ⟨_, rfl⟩; have ea : ((jp : Int) + 1).toNat = iN := by omega
     have pa : (0 : Int) ≤ (jp : Int) + 1 := by omega
     have ba : (jp : Int) + 1 < (d.size : Int) := by omega
     have ra : IntKind.i64.wrap ((jp : Int) + 1) = (jp : Int) + 1 := by rw [IntKind.wrap_i64]; omega
     have ec : ((jp : Int)).toNat = jN := by omega
     have pc : (0 : Int) ≤ (jp : Int) := by omega
     have bc : (jp : Int) < (d.size : Int) := by omega
     have rc : IntKind.i64.wrap ((jp : Int)) = (jp : Int) := by rw [IntKind.wrap_i64]; omega
     obtain ⟨x, hx⟩ : ∃ x, x = dj[j]! := ⟨_, rfl⟩; obtain ⟨y, hy⟩ : ∃ x, x = dj[j - 1]! := ⟨_, rfl⟩; have la := cell_far (SJ.out.c j (by omega)); have lb := cell_far (SJ.out.c (j - 1) (by omega)); rw [← hx, ← hiN] at la; rw [← hy, ← hjN] at lb; have hc := HC.out.call SJ.out (x := x) (y := y) (by rw [hx]; exact KJ.out _ (by omega)) (by rw [hy]; exact KJ.out _ (by omega))
     cases hlv : (ltI cf) dj[j]! dj[j - 1]! with
     | true =>
      have hv : cf x y < 0 := by rw [hx, hy]; exact of_decide_eq_true hlv
      have hd : decide (cf x y < 0) = true := decide_eq_true hv; have HX := Aside0.mk hx; have HY := Aside0.mk hy; have HIN := Aside0.mk hiN; have HJN := Aside0.mk hjN; clear hx hy hiN hjN
      go_wp2_with fail
      refine wp_region_far (by kernel_rfl) (by kernel_rfl) ?_
      repeat (refine wpQuiet_step (fun K hK => ?_); go_simp; first | (refine hK _ ?_; clear hK K) | (apply Exists.intro; refine ⟨fun _ => ?_, hK _ ?_⟩; (first | (go_at_fn g; refine calls_far (hc _))); clear hK K))
      refine wpQuiet_nil ?_; intro _ hw'; obtain ⟨pq, hw''⟩ := hw'; subst hw''; have S2 := Aside0.mk (SJ.out.below pq.h); clear la lb hc SJ; generalize pq.W = w2 at S2 ⊢; clear pq; have S3 : Aside0 (SrtW blk m w0 ((w2.setCell ⟨blk, iN, none⟩ (.int .i64 y)).setCell ⟨blk, jN, none⟩ (.int .i64 x)).drew (swp dj (j) (j - 1))) := ⟨by rw [HIN.out, HJN.out, HX.out, HY.out]; exact S2.out.swap (j) (j - 1) (by omega) (by omega)⟩; have c1 := S2.out.c j (by omega); have c2 := S2.out.c (j - 1) (by omega); have f1 := S2.out.f iN; have f2 := S2.out.f jN; rw [← HX.out, ← HIN.out] at c1; rw [← HY.out, ← HJN.out] at c2; have hne : (iN = jN) = False := eq_false (by have := HIN.out; have := HJN.out; omega); have hne' : (jN = iN) = False := eq_false (by have := HIN.out; have := HJN.out; omega); clear S2
      go_wp2_with fail
      go_big_region
      clear c1 c2 f1 f2; generalize ((w2.setCell ⟨blk, iN, none⟩ (.int .i64 y)).setCell ⟨blk, jN, none⟩ (.int .i64 x)).drew = w3 at S3 ⊢; clear ea ec
      go_wp2
      go_roundg (j - 1)
      case measure => omega
      case rel => exact ⟨j - 1, swp dj j (j - 1), by first | rfl | go_num | (congr 1; omega), by omega, by omega, Nat.le_refl _, by rw [size_swp]; exact hsj, S3, ⟨ok_swp KJ.out _ _ (by omega) (by omega)⟩, (show Hid _ from by rw [← HI.out, insInner_go (ltI cf) a j dj hja hlv]; exact rfl)⟩
     | false =>
      have hv : ¬ cf x y < 0 := by rw [hx, hy]; exact of_decide_eq_false hlv
      have hd : decide (cf x y < 0) = false := decide_eq_false hv; clear hx hy hiN hjN
      go_wp2_with fail
      refine wp_region_far (by kernel_rfl) (by kernel_rfl) ?_
      repeat (refine wpQuiet_step (fun K hK => ?_); go_simp; first | (refine hK _ ?_; clear hK K) | (apply Exists.intro; refine ⟨fun _ => ?_, hK _ ?_⟩; (first | (go_at_fn g; refine calls_far (hc _))); clear hK K))
      refine wpQuiet_nil ?_; intro _ hw'; obtain ⟨pq, hw''⟩ := hw'; subst hw''; have S2 := Aside0.mk (SJ.out.below pq.h); clear la lb hc SJ; generalize pq.W = w2 at S2 ⊢; clear pq; clear ea ec
      go_wp2
      go_roundg (b - (i + 1))
      case measure => omega
      case rel => exact ⟨i + 1, dj, by go_num, by omega, by omega, by omega, hsj, S2, KJ, OUT.out (Or.inr hlv)⟩
    ·
     have hjaz : decide ((j : Int) > (a : Int)) = false := decide_eq_false (by omega); have hjaz' : ¬ (a : Int) < (j : Int) := by omega
     go_wp2_with fail
     go_big_region
     have S2 := Aside0.mk SJ.out.drew; clear SJ; generalize wr.drew = w2 at S2 ⊢
     go_wp2
     go_roundg (b - (i + 1))
     case measure => omega
     case rel => exact ⟨i + 1, dj, by go_num, by omega, by omega, by omega, hsj, S2, KJ, OUT.out (Or.inl (by omega))⟩
  ·
   have hltz : ¬ (i : Int) < (b : Int) := by omega
   go_wp2
   go_end0
   exact ⟨rfl, by unfold Sort.insertionSort; rw [← HO.out, insOuter_stop _ _ _ _ _ hlt]; exact S1.out⟩
set_option maxHeartbeats 4000000 in
set_option maxRecDepth 1000000 in
theorem stb_sort (cf : Int → Int → Int) (ok : Int → Prop) (g : Nat) (cb : Array Value) (blk m cap : Nat) (d : Array Int) (w0 w : World)
  (eg : ∀ (args : Array Value) (W : World), (callFunc g args).run Tryd.prog W = .ok (.enter g args) W) (hcmp : CmpFar g cb ok cf blk w0) (S : SrtW blk m w0 w d) (hok : ∀ i, i < d.size → ok d[i]!) (hsz : d.size < 20) :
  Calls Tryd.prog 50 #[.slice (some ⟨blk, 0, none⟩) d.size cap, .int .i64 d.size, .func (.func g) #[] cb] w fun e w' => e = .returned (.tuple #[]) ∧ SrtW blk m w0 w' (Sort.insertionSort (ltI cf) d 0 d.size) := by
 have HI := Aside0.mk (fun (W : World) (hS : SrtW blk m w0 W d) => ins_sort cf ok g cb blk m cap 0 d.size d w0 W eg hcmp hS hok (Nat.zero_le _) (Nat.le_refl _) (by omega)); have S0 := Aside0.mk S; clear S hcmp hok eg; have h1 : decide ((20 : Int) ≤ (d.size : Int)) = false := decide_eq_false (by omega); have h1' : ¬ ((20 : Int) ≤ (d.size : Int)) := by omega
 have h2 : decide ((20 : Int) < (d.size : Int)) = false := decide_eq_false (by omega); have h2' : ¬ ((20 : Int) < (d.size : Int)) := by omega
 go_enter Tryd.func50, Tryd.ntmps50
 go_wp2
 go_loopg [7, 8] 0 (fun g1 va vb wr => va = .int .i64 0 ∧ vb = .int .i64 20 ∧ Aside0 (SrtW blk m w0 wr d))
 case atStart => exact ⟨rfl, rfl, S0⟩
 case round =>
  clear S0; obtain ⟨rfl, rfl, S0⟩ := hrel
  go_wp2_with (go_at_call 56; refine (HI.out _ S0.out).mono ?_; rintro e w2 ⟨rfl, hb⟩; have S1 := Aside0.mk hb; clear hb)
  go_loopg [6] 0 (fun g1 va wr => va = .int .i64 20 ∧ Aside0 (SrtW blk m w0 wr (Sort.insertionSort (ltI cf) d 0 d.size)))
  case atStart => exact ⟨rfl, S1⟩
  case round =>
   clear S1; obtain ⟨rfl, S1⟩ := hrel
   go_wp2
   go_end0
   exact ⟨rfl, S1.out⟩
set_option maxHeartbeats 4000000 in
theorem sst_sort (cf : Int → Int → Int) (ok : Int → Prop) (g : Nat) (cb : Array Value) (blk m cap : Nat) (d : Array Int) (w0 w : World)
  (eg : ∀ (args : Array Value) (W : World), (callFunc g args).run Tryd.prog W = .ok (.enter g args) W) (hcmp : CmpFar g cb ok cf blk w0) (S : SrtW blk m w0 w d) (hok : ∀ i, i < d.size → ok d[i]!) (hsz : d.size < 20) :
  Calls Tryd.prog 42 #[.slice (some ⟨blk, 0, none⟩) d.size cap, .func (.func g) #[] cb] w fun e w' => e = .returned (.tuple #[]) ∧ SrtW blk m w0 w' (Sort.insertionSort (ltI cf) d 0 d.size) := by
 have HI := Aside0.mk (stb_sort cf ok g cb blk m cap d w0 w eg hcmp S hok hsz); clear S hcmp hok eg
 go_enter Tryd.func42, Tryd.ntmps42
 go_wp2_with (go_at_call 50; refine HI.out.mono ?_; rintro e w2 ⟨rfl, hb⟩; have S1 := Aside0.mk hb; clear hb)
 go_end0
 exact ⟨rfl, S1.out⟩
def ordK : Nat := 8
def chp (x y : S25) : Bool := (lots_Cheaper.f ordK x.f0 x.f1 x.f2 x.f3 y.f0 y.f1 y.f2 y.f3).getD false
def ordC (l : List S25) (a b : Int) : Int := if chp (rd_T25 l a) (rd_T25 l b) = true then -1 else if chp (rd_T25 l b) (rd_T25 l a) = true then 1 else 0
theorem enters43 : ∀ (args : Array Value) (W : World), (callFunc 43 args).run Tryd.prog W = .ok (.enter 43 args) W := by
 intro args W; have hf := Tryd.func43; have h1 : (Tryd.f43).name ≠ "runtime.NumGoroutine" := by decide
 have h2 : (Tryd.f43).body.isSome = true := by rfl
 obtain ⟨c, hc⟩ := Option.isSome_iff_exists.1 h2
 simp [callFunc, hf, h1, hc, mark]
set_option maxHeartbeats 8000000 in
set_option maxRecDepth 1000000 in
theorem ord_answers [Inhabited (Int → Addr)] (l : List S25) (A : Option Addr) (c gb blk : Nat) (w1 w0 : World) (hr : Kd.C k25 w1 A l.length l) (hbox : w1.cell? ⟨gb, 0, none⟩ = some (.slice A l.length c)) (h01 : Below w1.heap.size w1 w0) (hle : w1.heap.size ≤ blk)
  (hall : ∀ x y : Int, 0 ≤ x → x < l.length → 0 ≤ y → y < l.length → lots_Cheaper.f ordK (rd_T25 l x).f0 (rd_T25 l x).f1 (rd_T25 l x).f2 (rd_T25 l x).f3 (rd_T25 l y).f0 (rd_T25 l y).f1 (rd_T25 l y).f2 (rd_T25 l y).f3 = some (chp (rd_T25 l x) (rd_T25 l y))) :
  CmpFar 43 #[.pointer (some ⟨gb, 0, none⟩)] (fun i => 0 ≤ i ∧ i < (l.length : Int)) (ordC l) blk w0 := by
 rintro x y W ⟨hx0, hx1⟩ ⟨hy0, hy1⟩ hb; have HB : Below w1.heap.size w1 W := h01.trans (hb.mono hle); have HC := Kd.C_below hr HB; have hbx := Aside0.mk (pw_cell_below HB hbox); have k1 := hall x y hx0 hx1 hy0 hy1; have k2 := hall y x hy0 hy1 hx0 hx1; obtain ⟨ad, e, xx0, xx1, xx2, xx3⟩ := at_T25 HC x hx0 hx1; obtain ⟨ad', e', yy0, yy1, yy2, yy3⟩ := at_T25 HC y hy0 hy1; subst e; obtain rfl := Option.some.inj e'; unfold ordC; generalize rd_T25 l x = X at xx0 xx1 xx2 xx3 k1 k2 ⊢; generalize rd_T25 l y = Y at yy0 yy1 yy2 yy3 k1 k2 ⊢; have K1 := Aside0.mk (fun (p : World) => lots_Cheaper.calls ordK X.f0 X.f1 X.f2 X.f3 Y.f0 Y.f1 Y.f2 Y.f3 (chp X Y) p k1); have K2 := Aside0.mk (fun (p : World) => lots_Cheaper.calls ordK Y.f0 Y.f1 Y.f2 Y.f3 X.f0 X.f1 X.f2 X.f3 (chp Y X) p k2); have x0 := Aside0.mk xx0; have x1 := Aside0.mk xx1; have x2 := Aside0.mk xx2; have x3 := Aside0.mk xx3; have y0 := Aside0.mk yy0; have y1 := Aside0.mk yy1; have y2 := Aside0.mk yy2; have y3 := Aside0.mk yy3; have hu25 := Tryd.underlying25; have hxa : decide (0 ≤ x) = true := decide_eq_true hx0; have hxb : decide (x < (l.length : Int)) = true := decide_eq_true hx1; have hya : decide (0 ≤ y) = true := decide_eq_true hy0; have hyb : decide (y < (l.length : Int)) = true := decide_eq_true hy1; replace hx0 := eq_true hx0; replace hx1 := eq_true hx1; replace hy0 := eq_true hy0; replace hy1 := eq_true hy1; have c0 := cell_far hbx.out; have c1 := cell_far x0.out; have c2 := cell_far x1.out; have c3 := cell_far x2.out; have c4 := cell_far x3.out; have c5 := cell_far y0.out; have c6 := cell_far y1.out; have c7 := cell_far y2.out; have c8 := cell_far y3.out; clear k1 k2 xx0 xx1 xx2 xx3 yy0 yy1 yy2 yy3 HC HB hr hall h01 hle hb hbox; generalize hq1 : chp X Y = q1 at K1 ⊢; generalize hq2 : chp Y X = q2 at K2 ⊢; clear hq1 hq2
 show Calls Tryd.prog 43 #[.int .i64 x, .int .i64 y, .pointer (some ⟨gb, 0, none⟩)] W _
 cases q1
 ·
  go_enter Tryd.func43, Tryd.ntmps43
  go_wp2_with fail
  refine wp_region_far (by kernel_rfl) (by kernel_rfl) ?_
  repeat (refine wpQuiet_step (fun K hK => ?_); go_simp; first | (refine hK _ ?_; clear hK K) | (apply Exists.intro; refine ⟨fun _ => ?_, hK _ ?_⟩; (first | (go_at_call 44; refine calls_far (K1.out _))); clear hK K))
  refine wpQuiet_nil ?_; intro _ hw'; obtain ⟨pq, hw''⟩ := hw'; subst hw''; have B2 := Aside0.mk pq.h; clear c0 c1 c2 c3 c4 c5 c6 c7 c8; generalize pq.W = w2 at B2 ⊢; clear pq; have c0 := cell_far (pw_cell_below B2.out hbx.out); have c1 := cell_far (pw_cell_below B2.out x0.out); have c2 := cell_far (pw_cell_below B2.out x1.out); have c3 := cell_far (pw_cell_below B2.out x2.out); have c4 := cell_far (pw_cell_below B2.out x3.out); have c5 := cell_far (pw_cell_below B2.out y0.out); have c6 := cell_far (pw_cell_below B2.out y1.out); have c7 := cell_far (pw_cell_below B2.out y2.out); have c8 := cell_far (pw_cell_below B2.out y3.out)
  go_wp2_with fail
  refine wp_region_far (by kernel_rfl) (by kernel_rfl) ?_
  repeat (refine wpQuiet_step (fun K hK => ?_); go_simp; first | (refine hK _ ?_; clear hK K) | (apply Exists.intro; refine ⟨fun _ => ?_, hK _ ?_⟩; (first | (go_at_call 44; refine calls_far (K2.out _))); clear hK K))
  refine wpQuiet_nil ?_; intro _ hw'; obtain ⟨pq, hw''⟩ := hw'; subst hw''; have B3 := Aside0.mk (below_step B2.out pq.h); clear c0 c1 c2 c3 c4 c5 c6 c7 c8; generalize pq.W = w3 at B3 ⊢; clear pq
  cases q2
  ·
   go_wp2
   go_ret
   exact ⟨by simp, B3.out⟩
  ·
   go_wp2
   go_ret
   exact ⟨by simp, B3.out⟩
 ·
  go_enter Tryd.func43, Tryd.ntmps43
  go_wp2_with fail
  refine wp_region_far (by kernel_rfl) (by kernel_rfl) ?_
  repeat (refine wpQuiet_step (fun K hK => ?_); go_simp; first | (refine hK _ ?_; clear hK K) | (apply Exists.intro; refine ⟨fun _ => ?_, hK _ ?_⟩; (first | (go_at_call 44; refine calls_far (K1.out _))); clear hK K))
  refine wpQuiet_nil ?_; intro _ hw'; obtain ⟨pq, hw''⟩ := hw'; subst hw''; have B2 := Aside0.mk pq.h; clear c0 c1 c2 c3 c4 c5 c6 c7 c8; generalize pq.W = w2 at B2 ⊢; clear pq
  go_wp2
  go_ret
  exact ⟨by simp, B2.out⟩
theorem R_to_srt {W : World} {base : Nat} {ok : Nat → Prop} {v : Value} {xs : List Int} (h : Kd.R (Kd.int .i64) 3 W base ok v xs) (hp : 0 < xs.length) :
  ∃ g cap m, v = .slice (some ⟨g, 0, none⟩) xs.length cap ∧ base ≤ g ∧ SrtW g m W W xs.toArray ∧
   ∀ (W0 W' : World) (d' : Array Int), SrtW g m W0 W' d' → d'.size = xs.length → Kd.R (Kd.int .i64) 3 W' base (fun _ => True) (.slice (some ⟨g, 0, none⟩) xs.length cap) d'.toList := by
 obtain ⟨hl, ho⟩ := Kd.own_of_R (enc := Value.int .i64) (h1 := fun _ => rfl) h
 rcases ho with ⟨_, h0⟩ | ⟨g, cap, cur, rfl, hg, hh, hc1, hc2, hc3, ht⟩
 · omega
 refine ⟨g, cap, cur.size, rfl, hg, ⟨Below.refl _ _, cur, hh, rfl, ?_⟩, ?_⟩
 ·
  intro i hi; have hi' : i < xs.length := by simpa using hi
  have hget : (cur.toList.take (xs.length * 1))[i]? = (encs (Value.int .i64) xs)[i]? := by rw [ht]
  rw [List.getElem?_take_of_lt (by omega)] at hget; rw [← Array.getElem?_toList, hget]; have hz : (encs (Value.int .i64) xs) = xs.map (Value.int .i64) := rfl; rw [hz, List.getElem?_map, List.getElem?_eq_getElem hi', getElem!_pos _ i hi]; rfl
 ·
  intro W0 W' d' S hd; obtain ⟨cs, e1, e2, e3⟩ := S.row; refine Kd.R_of_own (enc := Value.int .i64) (h1 := fun _ => rfl) ?_ (fun _ _ => trivial); have hdl : d'.toList.length = xs.length := by rw [Array.length_toList]; exact hd
  have hz : (encs (Value.int .i64) d'.toList) = d'.toList.map (Value.int .i64) := rfl; rw [hdl, hz]; refine ⟨by rw [List.length_map, hdl]; omega, .inr ⟨g, cap, cs, rfl, hg, e1, hc1, hc2, by rw [e2]; exact hc3, ?_⟩⟩
  apply List.ext_getElem?
  intro i; by_cases hi : i < xs.length
  ·
   have hi' : i < d'.size := by rw [hd]; exact hi
   rw [List.getElem?_take_of_lt (by omega), Array.getElem?_toList, e3 i hi', List.getElem?_map, Array.getElem?_toList, Array.getElem?_eq_getElem hi', getElem!_pos _ i hi']; rfl
  · rw [List.getElem?_eq_none (by rw [List.length_take]; omega), List.getElem?_eq_none (by rw [List.length_map]; omega)]
def ixs (n : Nat) : List Int := (List.range n).map (fun i : Nat => (i : Int))
theorem ixs_len (n : Nat) : (ixs n).length = n := by unfold ixs; rw [List.length_map, List.length_range]
theorem ixs_succ (n : Nat) : ixs n ++ [(n : Int)] = ixs (n + 1) := by unfold ixs; rw [List.range_succ, List.map_append]; rfl
theorem ixs_get (n i : Nat) (h : i < n) : (ixs n).toArray[i]! = (i : Int) := by
 have h2 : i < (ixs n).toArray.size := by rw [List.size_toArray, ixs_len]; exact h
 have h3 : (ixs n)[i]? = some (i : Int) := by unfold ixs; simp [h]
 rw [getElem!_pos _ i h2, List.getElem_toArray]; obtain ⟨_, h4⟩ := List.getElem?_eq_some_iff.1 h3; exact h4
def ordF (l : List S25) : List Int := (Sort.insertionSort (ltI (ordC l)) (ixs l.length).toArray 0 l.length).toList
def ordOK (l : List S25) : Bool := decide (0 < l.length) && decide (l.length < 20) && (List.range l.length).all fun i => (List.range l.length).all fun j => (lots_Cheaper.f ordK (rd_T25 l i).f0 (rd_T25 l i).f1 (rd_T25 l i).f2 (rd_T25 l i).f3 (rd_T25 l j).f0 (rd_T25 l j).f1 (rd_T25 l j).f2 (rd_T25 l j).f3).isSome
/-- The places of lots, those that cost less for what they are worth first. -/
def lots_Order.f (l0 : List (S25)) : Option (List Int) := if ordOK l0 = true then some (ordF l0) else none
theorem insInner_size (lt : Int → Int → Bool) (a : Nat) : ∀ (j : Nat) (d : Array Int), (insInner lt a j d).size = d.size
 | 0, d => by rw [insInner]
 | j + 1, d => by
  rw [insInner]
  split
  · rw [insInner_size lt a j, size_swp]
  · rfl
theorem insOuter_size (lt : Int → Int → Bool) (a b : Nat) : ∀ (n i : Nat) (d : Array Int), b - i = n → (insOuter lt a b i d).size = d.size
 | 0, i, d, h => by rw [insOuter, if_neg (by omega)]
 | n + 1, i, d, h => by rw [insOuter, if_pos (by omega), insOuter_size lt a b n (i + 1) _ (by omega), insInner_size]
theorem ordOK_all {l : List S25} (h : ordOK l = true) : 0 < l.length ∧ l.length < 20 ∧ ∀ x y : Int, 0 ≤ x → x < l.length → 0 ≤ y → y < l.length → lots_Cheaper.f ordK (rd_T25 l x).f0 (rd_T25 l x).f1 (rd_T25 l x).f2 (rd_T25 l x).f3 (rd_T25 l y).f0 (rd_T25 l y).f1 (rd_T25 l y).f2 (rd_T25 l y).f3 = some (chp (rd_T25 l x) (rd_T25 l y)) := by
 unfold ordOK at h; rw [Bool.and_eq_true, Bool.and_eq_true] at h; obtain ⟨⟨h1, h2⟩, h3⟩ := h; refine ⟨of_decide_eq_true h1, of_decide_eq_true h2, ?_⟩; intro x y hx0 hx1 hy0 hy1; obtain ⟨i, rfl⟩ := Int.eq_ofNat_of_zero_le hx0; obtain ⟨j, rfl⟩ := Int.eq_ofNat_of_zero_le hy0; have h4 := List.all_eq_true.1 h3 i (List.mem_range.2 (by omega)); have h5 := List.all_eq_true.1 h4 j (List.mem_range.2 (by omega)); obtain ⟨b, hb⟩ := Option.isSome_iff_exists.1 h5; unfold chp; rw [hb]; rfl
set_option maxHeartbeats 8000000 in
set_option maxRecDepth 1000000 in
theorem lots_Order.calls [Inhabited (Int → Addr)] (A0 : Option Addr) (c0 : Nat) (l0 : List (S25)) (r : List Int) (w : World) (hr0 : Kd.C k25 w A0 l0.length l0) (hc0 : l0.length ≤ c0) (h : lots_Order.f l0 = some r) :
  Calls Tryd.prog 28 #[.slice A0 l0.length c0] w fun e w' => ∃ v0_ : Value, e = .returned (v0_) ∧ Kd.R (Kd.int .i64) 3 w' w.heap.size (fun _ => True) v0_ r ∧ Below w.heap.size w w' := by
 have hmf : ∀ (fn : Fn) (first cap : Array Value) (w : World), (Instr.makeFunc fn first cap).run Tryd.prog w = .ok (.func fn first cap) w := fun _ _ _ _ => rfl; unfold lots_Order.f at h; by_cases hok : ordOK l0 = true
 ·
  rw [if_pos hok] at h; obtain rfl := Option.some.inj h; obtain ⟨hp, hlt, hall⟩ := ordOK_all hok; clear h hok; have HALL := Aside0.mk hall; have HP := Aside0.mk hp; have HLT := Aside0.mk hlt; have HR := Aside0.mk hr0; have HB := Aside0.mk (Below.refl w.heap.size w); clear hall hp hlt hr0 hc0
  go_enter Tryd.func28, Tryd.ntmps28
  go_wp2_with (first | ((with_reducible refine gate_dst (N := 1) rfl ?_); refine box_event ?hg (N := 1) ?hd (cs := #[.slice A0 l0.length c0]) (t := 26) ?hr ?_; (case hd => rfl); (case hg => rfl); (case hr => first | (go_simp; done) | (go_simp; rfl)); intro gb hg w2 hbox hb; have n0_ := Aside0.mk (below_step (zH HB.out) hb); have BK := Aside0.mk hbox; clear HB; have HB := n0_; clear n0_ hb hbox hg; have hcz := (blk_cell BK.out 0).trans (show _ = some (.slice A0 l0.length c0) from rfl)))
  have HB2 := Aside0.mk (Below.refl w2.heap.size w2)
  go_loopg [3, 7] l0.length (fun kq v3 v7 w' => ∃ (i : Nat), v7 = .int .i64 i ∧ Aside0 (i ≤ l0.length) ∧ Aside0 (l0.length ≤ kq + i) ∧ Aside0 (Kd.R (Kd.int .i64) 3 w' w2.heap.size (fun _ => True) v3 (ixs i)) ∧ Aside0 (Below w2.heap.size w2 w'))
  case atStart => exact ⟨0, rfl, ⟨Nat.zero_le _⟩, ⟨by omega⟩, ⟨Kd.R_nil _ _ _ _ _⟩, ⟨by repeat (first | (with_reducible first | exact HB2.out | apply below_alloc | apply pw_below_drewN | apply below_drew1) | exact HB2.out)⟩⟩
  case round =>
   clear hcz HB2; obtain ⟨i, rfl, HI, HK, HO, HB2⟩ := hrel; by_cases hlt : i < l0.length
   ·
    have cb0 : decide ((i : Int) < (l0.length : Int)) = true := decide_eq_true (by omega); have cb1 : ((i : Int) < (l0.length : Int)) = True := eq_true (by omega); have HLI := Aside0.mk hlt; have HW : Aside0 (wrap64 ((i : Int) + 1) = ((i + 1 : Nat) : Int)) := ⟨by have := HLT.out; unfold wrap64; omega⟩; clear hlt
    go_wp2_with (first | ((with_reducible refine gate_builtin (b := .append) (xs := #[.tmp 10, .tmp 12]) rfl ?_); at_builtin; refine Kd.R_append (Kd.int .i64) (w0 := w2) w2.heap.size rfl (.tmp 10) (.tmp 12) 30 3 (.int .i64 0) 8 rfl Tryd.underlying30 info3 rfl (by decide) (by omega) u3 (ixs i) (i : Int) [.int .i64 (i : Int)] (fun _ => True) (fun _ => False) rfl (by first | (go_simp; done) | (go_simp; rfl)) ?aP (fun _ hk => hk.elim) ?aF ?aO ?aB ?aS ?aL ?_; (case aP => exact rfl); (case aB => exact (by repeat (first | (with_reducible first | exact HB2.out | apply below_alloc | apply pw_below_drewN | apply below_drew1) | exact HB2.out))); (case aF => exact (fun _ _ => trivial)); (case aO => exact (zR HO.out)); (case aS => exact (below_size (by repeat (first | (with_reducible first | exact HB2.out | apply below_alloc | apply pw_below_drewN | apply below_drew1) | exact HB2.out)))); (case aL => rw [ixs_len]; have := HLT.out; have := HLI.out; omega); intro v121 w11 ho hb hg hat; rw [ixs_succ] at ho; have HO2 := Aside0.mk ho; have HB3 := Aside0.mk hb; clear ho hb hg hat))
    go_roundg (l0.length - (i + 1))
    case measure => have := HK.out; have := HLI.out; omega
    case rel => exact ⟨i + 1, by rw [HW.out], ⟨by have := HLI.out; omega⟩, ⟨by have := HLI.out; omega⟩, ⟨by (with_reducible repeat (first | apply Kd.R_alloc | apply Kd.R_drewN | apply Kd.R_drew)); exact HO2.out⟩, ⟨by repeat (first | (with_reducible first | exact HB3.out | apply below_alloc | apply pw_below_drewN | apply below_drew1) | exact HB3.out)⟩⟩
   ·
    obtain rfl : i = l0.length := by have := HI.out; omega
    have cb0 : decide ((l0.length : Int) < (l0.length : Int)) = false := decide_eq_false (by omega); have cb1 : ((l0.length : Int) < (l0.length : Int)) = False := eq_false (by omega); clear hlt; obtain ⟨g, cap, m, hv, hgb, S, back⟩ := R_to_srt HO.out (by rw [ixs_len]; exact HP.out); rw [ixs_len] at hv back; subst hv; have hsz : (ixs l0.length).toArray.size = l0.length := by rw [List.size_toArray, ixs_len]
    have HC := ord_answers l0 A0 c0 gb g w2 wr (Kd.C_below HR.out HB.out) ((blk_cell BK.out 0).trans rfl) HB2.out hgb HALL.out; have HS := fun (W : World) (hS : SrtW g m wr W (ixs l0.length).toArray) => sst_sort (ordC l0) (fun i => 0 ≤ i ∧ i < (l0.length : Int)) 43 #[.pointer (some ⟨gb, 0, none⟩)] g m cap (ixs l0.length).toArray wr W enters43 HC hS (fun i hi => by rw [hsz] at hi; rw [ixs_get _ i hi]; constructor <;> omega) (by rw [hsz]; exact HLT.out); rw [hsz] at HS; have HS := Aside0.mk HS; have S := Aside0.mk S; have BACK := Aside0.mk back; have HGB := Aside0.mk hgb; clear HC back hsz hgb
    go_wp2_with (go_at_call 42; refine (HS.out _ S.out).mono ?_; rintro e w4 ⟨rfl, hb⟩; have S4 := Aside0.mk hb; clear hb)
    go_ret
    refine ⟨_, rfl, ?_, ?_⟩
    ·
     have hd : (Sort.insertionSort (ltI (ordC l0)) (ixs l0.length).toArray 0 l0.length).size = l0.length := by
      unfold Sort.insertionSort; rw [insOuter_size _ _ _ _ _ _ rfl, List.size_toArray, ixs_len]
     exact Kd.R_lower (BACK.out _ _ _ S4.out hd) (below_size HB.out)
    · exact (HB.out.trans (HB2.out.mono (below_size HB.out))).trans (S4.out.hb.mono (Nat.le_trans (below_size HB.out) HGB.out))
 ·
  rw [if_neg hok] at h; exact absurd h (by simp)

end Go.Proofs.YtlalofmilhakjaaDoor.ELotsSay
