/- The functions that the law comes to, as plain functions, and for each a proof that the Go code comes to just these answers. Written by a program of this claim. Conditions: each theorem bears its own. -/
import Derived.Test.YtambndaimehpmaaDoorEFxPlaysx0
import Derived.Test.YtambndaimehpmaaDoorEFxPlaysx1
import Derived.Test.YtambndaimehpmaaDoorEFxPlaysx2
import Derived.Test.YtambndaimehpmaaDoorEFxPlaysx4
namespace Go.Proofs.YtambndaimehpmaaDoor.EFxPlays
open Go.RowKit Go.Proofs.YtambndaimehpmaaDoorW.PrintWords Go.Proofs.YtambndaimehpmaaDoorW.PrintLast Go.Proofs.YtambndaimehpmaaDoorW.PrintMore Go.Proofs.YtambndaimehpmaaDoorW.PrintOpen
attribute [local go_sem] max2_int min2_int max_two min_two max_three min_three max_four min_four   -- for this text's walks alone
set_option linter.unusedVariables false
set_option linter.unusedSimpArgs false

/-! ### pledgelaw13_FxPlays: function 4 -/
/-! ### Rates behind a pointer -/
def rg64 (m : Int) : Prop := -9223372036854775808 ≤ m ∧ m ≤ 9223372036854775807
theorem rg_wf {m : Int} (h : rg64 m) : (Lit.int .i64 m).wf = true := by
  simp only [Lit.wf, Bool.and_eq_true, decide_eq_true_eq]
  have e1 : IntKind.i64.min = -9223372036854775808 := by decide
  have e2 : IntKind.i64.max = 9223372036854775807 := by decide
  rw [e1, e2]
  exact h
theorem rateKeyed : Go.Maps.Keyed Tryd.prog 3 := Go.Maps.int_keyed Tryd.underlying3
theorem rk_key (m : Int) (h : rg64 m) : keyOf Tryd.prog 3 (.int .i64 m) = some (.int .i64 m) := Go.Maps.keyOf_int_mk Tryd.underlying3 (rg_wf h)
theorem rk_lit (m : Int) (h : rg64 m) : WideAt.IsKeyLit (.int .i64 m) := rateKeyed.key (rk_key m h)
theorem zeroR (w : World) : (zeroValue 2).run Tryd.prog w = .ok (.int .i64 0) w := by kernel_rfl
theorem tb_alloc {w : World} {g : Nat} {o : Obj} (h : w.heap[g]? = some o) (o' : Obj) : (w.alloc o').heap[g]? = some o := (Below.heap_alloc w o' g (blk_lt h)).trans h
theorem turn_blk {w w' : World} {b g : Nat} {o : Obj} (h : w.mapTurned w' b) (hg : w.heap[g]? = some o) (hne : g ≠ b) : w'.heap[g]? = some o := (h.grown.block g (blk_lt hg) (fun e => hne (Option.some.inj e))).trans hg
theorem room {n : Nat} (h : n < 1000) : n < maxLen := Nat.lt_of_lt_of_le h (by decide)
/-- What a map's datum says of the rates. -/
def ReadsR (D : DataW Unit) (R : Int → Option Int) : Prop := ∀ m, rg64 m → Go.Maps.has D (.int .i64 m) = (R m).isSome ∧ D.atKey (.int .i64 m) (.lit (.int .i64 0)) = .lit (.int .i64 ((R m).getD 0))
/-- Rates in block rt, which are R; their map (if there is one) lies in a block from base on. -/
def TbR (rt base n : Nat) (R : Int → Option Int) (w : World) : Prop :=
  (w.heap[rt]? = some (.cells #[.map none] 26 (0, 0)) ∧ ∀ m, R m = none) ∨
  ∃ (b : Nat) (D : DataW Unit), w.heap[rt]? = some (.cells #[.map (some b)] 26 (0, 0)) ∧ base ≤ b ∧ b ≠ rt ∧ w.ownsMap Tryd.prog 3 (plainElem Tryd.prog 2) b n D ∧ ReadsR D R
theorem TbR.below {rt base n : Nat} {R : Int → Option Int} {w w' : World} (h : TbR rt base n R w) (hb : Below w.heap.size w w') : TbR rt base n R w' := by
  rcases h with ⟨h, hT⟩ | ⟨b, D, h, hl, hne, ⟨es, clock, he, r⟩, hT⟩
  · exact Or.inl ⟨blk_below h hb, hT⟩
  · exact Or.inr ⟨b, D, blk_below h hb, hl, hne, ⟨es, clock, blk_below he hb, r⟩, hT⟩
def updR (R : Int → Option Int) (m v : Int) : Int → Option Int := fun m' => if m' = m then some v else R m'
theorem reads_put {D : DataW Unit} {R : Int → Option Int} (hm : Go.Maps.IsMap D) (hT : ReadsR D R) (m v : Int) (h : rg64 m) : ReadsR (D.put (.int .i64 m) (.lit (.int .i64 v))) (updR R m v) := by
  intro m' h'
  unfold updR
  by_cases e : m' = m
  · subst e
    rw [if_pos rfl]
    exact ⟨Go.Maps.has_put_same hm (rk_lit m' h) _, Go.Maps.atKey_put_same hm (rk_lit m' h) _ _⟩
  · have hne : Lit.int .i64 m' ≠ Lit.int .i64 m := fun c => e (by injection c)
    rw [if_neg e, Go.Maps.has_put_other hne, Go.Maps.atKey_put_other hne]
    exact hT m' h'
theorem reads_nil {R : Int → Option Int} (h : ∀ m, R m = none) : ReadsR (.map []) R := fun m _ => by rw [h m]; exact ⟨rfl, rfl⟩
/-- What Get answers. -/
def getR (R : Int → Option Int) (m : Int) : Int × Bool := if m = 1 then (1000000, true) else ((R m).getD 0, (R m).isSome)
theorem look_R {b n : Nat} {D : DataW Unit} {R : Int → Option Int} {W : World} (hown : W.ownsMap Tryd.prog 3 (plainElem Tryd.prog 2) b n D) (hT : ReadsR D R) (m : Int) (h : rg64 m) :
    (Instr.lookup 24 (.map (some b)) (.int .i64 m) true).run Tryd.prog W = .ok (.tuple #[.int .i64 ((R m).getD 0), .bool (R m).isSome]) W := by
  obtain ⟨v, ps, hrun, hv⟩ := hown.look_ok rateKeyed Tryd.underlying24 (zeroR W) (plainElem_int Tryd.underlying2 (by decide)) (rk_key m h)
  obtain ⟨c, rfl, hc, _⟩ := plainElem_int_inv Tryd.underlying2 hv
  rw [(hT m h).1] at hrun
  rw [(hT m h).2] at hc
  simp at hc
  rw [← hc.1] at hrun
  exact hrun
theorem own_belowR {w W : World} {b n : Nat} {D : DataW Unit} (h : w.ownsMap Tryd.prog 3 (plainElem Tryd.prog 2) b n D) (hb : Below w.heap.size w W) : W.ownsMap Tryd.prog 3 (plainElem Tryd.prog 2) b n D := by
  obtain ⟨es, clock, he, r⟩ := h
  exact ⟨es, clock, blk_below he hb, r⟩
set_option maxHeartbeats 4000000 in
set_option maxRecDepth 100000 in
theorem GetR.calls [Inhabited (Int → Addr)] (rt base n : Nat) (R : Int → Option Int) (m : Int) (w : World) (hT : TbR rt base n R w) (h : rg64 m) :
    Calls Tryd.prog 9 #[.pointer (some ⟨rt, 0, none⟩), .int .i64 m] w fun e w' => e = .returned (.tuple #[.int .i64 (getR R m).1, .bool (getR R m).2]) ∧ Below w.heap.size w w' := by
  have hu2 := Tryd.underlying26
  have hu3 := Tryd.underlying24
  by_cases h1 : m = 1
  · have e : getR R m = (1000000, true) := by unfold getR; rw [if_pos h1]
    rw [e]
    have cb0 : (m == 1) = true := beq_iff_eq.mpr h1
    clear hT h e h1
    go_enter Tryd.func9, Tryd.ntmps9
    go_wp2
    go_ret2
    exact ⟨rfl, Below.refl _ _⟩
  · have e : getR R m = ((R m).getD 0, (R m).isSome) := by unfold getR; rw [if_neg h1]
    rw [e]
    have cb0 : (m == 1) = false := beq_false_of_ne h1
    rcases hT with ⟨hb0, hT⟩ | ⟨b, D, hb0, _, _, ho, hT⟩
    · have hlk := Go.Maps.look_nil (w := w) true rateKeyed Tryd.underlying24 (zeroR w) (rk_key m h)
      rw [if_pos rfl] at hlk
      rw [hT m]
      have k0 := (blk_cell hb0 0).trans (show _ = some (.map none) from rfl)
      clear hb0 hT h e h1
      go_enter Tryd.func9, Tryd.ntmps9
      go_wp2
      go_ret2
      exact ⟨rfl, Below.refl _ _⟩
    · have hlk := look_R ho hT m h
      have k0 := (blk_cell hb0 0).trans (show _ = some (.map (some b)) from rfl)
      clear hb0 ho hT h e h1
      generalize (R m).getD 0 = g0 at hlk ⊢
      generalize (R m).isSome = g1 at hlk ⊢
      go_enter Tryd.func9, Tryd.ntmps9
      go_wp2
      go_ret2
      exact ⟨rfl, Below.refl _ _⟩
/-- What may be set; what Set answers, and leaves. -/
def setOK (m v : Int) : Prop := (2 ≤ m ∧ m ≤ 6) ∧ 1 ≤ v ∧ v ≤ 1000000000
instance (m v : Int) : Decidable (setOK m v) := by unfold setOK; infer_instance
def setE (m v : Int) : Option Int := if setOK m v then none else some 103
def setR (R : Int → Option Int) (m v : Int) : Int → Option Int := if setOK m v then updR R m v else R
theorem rg_ok {m v : Int} (h : setOK m v) : rg64 m ∧ rg64 v := by unfold setOK at h; unfold rg64; omega
set_option maxHeartbeats 4000000 in
set_option maxRecDepth 100000 in
theorem SetR.bad [Inhabited (Int → Addr)] (rt : Nat) (m v : Int) (w : World) (hG : GlobOK w) (h : ¬ setOK m v) :
    Calls Tryd.prog 7 #[.pointer (some ⟨rt, 0, none⟩), .int .i64 m, .int .i64 v] w fun e w' => e = .returned (errW (some 103)) ∧ Below w.heap.size w w' := by
  unfold setOK at h
  have hwg := GlobOK.at hG 103 0 (by simp [globTab])
  clear hG
  by_cases h1 : m ≤ 1
  · have ca1 : decide (m ≤ 1) = true := decide_eq_true (by omega)
    have ca2 : (m ≤ 1) = True := eq_true (by omega)
    clear h
    go_enter Tryd.func7, Tryd.ntmps7
    go_wp2
    go_ret
    exact ⟨by first | rfl | simp [errW_some], Below.refl _ _⟩
  have ca1 : decide (m ≤ 1) = false := decide_eq_false (by omega)
  have ca2 : (m ≤ 1) = False := eq_false (by omega)
  by_cases h2 : m > 6
  · have cb1 : decide (m > 6) = true := decide_eq_true (by omega)
    have cb2 : (m > 6) = True := eq_true (by omega)
    have cb3 : decide (6 < m) = true := decide_eq_true (by omega)
    have cb4 : (6 < m) = True := eq_true (by omega)
    clear h
    go_enter Tryd.func7, Tryd.ntmps7
    go_wp2
    go_ret
    exact ⟨by first | rfl | simp [errW_some], Below.refl _ _⟩
  have cb1 : decide (m > 6) = false := decide_eq_false (by omega)
  have cb2 : (m > 6) = False := eq_false (by omega)
  have cb3 : decide (6 < m) = false := decide_eq_false (by omega)
  have cb4 : (6 < m) = False := eq_false (by omega)
  by_cases h3 : v < 1
  · have cc1 : decide (v < 1) = true := decide_eq_true (by omega)
    have cc2 : (v < 1) = True := eq_true (by omega)
    clear h
    go_enter Tryd.func7, Tryd.ntmps7
    go_wp2
    go_ret
    exact ⟨by first | rfl | simp [errW_some], Below.refl _ _⟩
  have cc1 : decide (v < 1) = false := decide_eq_false (by omega)
  have cc2 : (v < 1) = False := eq_false (by omega)
  have cd1 : decide (v > 1000000000) = true := decide_eq_true (by omega)
  have cd2 : (v > 1000000000) = True := eq_true (by omega)
  have cd3 : decide (1000000000 < v) = true := decide_eq_true (by omega)
  have cd4 : (1000000000 < v) = True := eq_true (by omega)
  clear h
  go_enter Tryd.func7, Tryd.ntmps7
  go_wp2
  go_ret
  exact ⟨by first | rfl | simp [errW_some], Below.refl _ _⟩
theorem nil_sizeR {D : DataW Unit} (h : Go.Maps.IsMap D) (hs : Go.Maps.size D = 0) : D = .map [] := by
  obtain ⟨es, rfl⟩ := h
  cases es with
  | nil => rfl
  | cons a l => simp [Go.Maps.size] at hs
set_option maxHeartbeats 8000000 in
set_option maxRecDepth 1000000 in
theorem SetR.nilcase [Inhabited (Int → Addr)] (rt base mb n : Nat) (R : Int → Option Int) (m v : Int) (w : World) (hb0 : w.heap[rt]? = some (.cells #[.map none] 26 (0, 0))) (hT : ∀ m, R m = none) (hbt : base ≤ rt) (hbm : base ≤ mb) (hmb : mb ≤ w.heap.size) (hn : n < 1000) (h : setOK m v) :
    Calls Tryd.prog 7 #[.pointer (some ⟨rt, 0, none⟩), .int .i64 m, .int .i64 v] w fun e w' => e = .returned .nilIface ∧ TbR rt mb (n + 1) (updR R m v) w' ∧ Below base w w' ∧ ∀ g, g < mb → g ≠ rt → w'.heap[g]? = w.heap[g]? := by
  have hu2 := Tryd.underlying26
  have hu3 := Tryd.underlying24
  have HR := Aside0.mk (rg_ok h)
  have HBT := Aside0.mk hbt
  have HBS := Aside0.mk (Nat.le_trans hbm hmb)
  have HBM := Aside0.mk hbm
  have HMB := Aside0.mk hmb
  have HN := Aside0.mk hn
  have HB := Aside0.mk (Below.refl w.heap.size w)
  have BK := Aside0.mk hb0
  unfold setOK at h
  have ca1 : decide (m ≤ 1) = false := decide_eq_false (by omega)
  have ca2 : (m ≤ 1) = False := eq_false (by omega)
  have cb1 : decide (m > 6) = false := decide_eq_false (by omega)
  have cb2 : (m > 6) = False := eq_false (by omega)
  have cb3 : decide (6 < m) = false := decide_eq_false (by omega)
  have cb4 : (6 < m) = False := eq_false (by omega)
  have cc1 : decide (v < 1) = false := decide_eq_false (by omega)
  have cc2 : (v < 1) = False := eq_false (by omega)
  have cd1 : decide (v > 1000000000) = false := decide_eq_false (by omega)
  have cd2 : (v > 1000000000) = False := eq_false (by omega)
  have cd3 : decide (1000000000 < v) = false := decide_eq_false (by omega)
  have cd4 : (1000000000 < v) = False := eq_false (by omega)
  have HT0 := Aside0.mk (reads_nil hT)
  clear hT
  have k2 := (blk_cell BK.out 0).trans (show _ = some (.map none) from rfl)
  have f2 := blk_frozen BK.out 0
  have kA := (blk_cell (tb_alloc BK.out (.map #[] 0)) 0).trans (show _ = some (.map none) from rfl)
  have fA := blk_frozen (tb_alloc BK.out (.map #[] 0)) 0
  have hne := Nat.ne_of_gt (blk_lt BK.out)
  have HO := Aside0.mk (((World.ownsMap_made (H := Unit) w Tryd.prog 3 (plainElem Tryd.prog 2)).setCell (a := ⟨rt, 0, none⟩) hne (.map (some w.heap.size))).mono (Nat.zero_le n))
  have BK5 := Aside0.mk (blk_put (tb_alloc BK.out (.map #[] 0)) 0 (.map (some w.heap.size)) rfl)
  have HB5 := Aside0.mk ((((HB.out.mono HBS.out).alloc HBS.out (.map #[] 0)).setCell (p := ⟨rt, 0, none⟩) HBT.out (.map (some w.heap.size))))
  have HNB := Aside0.mk hne
  obtain ⟨w7, hrun, hown, hturn⟩ := HO.out.store rateKeyed Tryd.underlying24 (room HN.out) (rk_key m HR.out.1) (plainElem_int Tryd.underlying2 (rg_wf HR.out.2))
  have HRUN7 := Aside0.mk (And.intro hown hturn)
  have HIM := Aside0.mk HO.out.isMap
  clear hb0 hbt hbm hmb hn h hne hown hturn
  have hmm := @run_makeMap Tryd.prog
  go_enter Tryd.func7, Tryd.ntmps7
  go_wp2
  go_ret
  exact ⟨rfl, Or.inr ⟨w.heap.size, _, turn_blk HRUN7.out.2 BK5.out HNB.out.symm, HMB.out, HNB.out, HRUN7.out.1, reads_put HIM.out HT0.out m v HR.out.1⟩, HB5.out.grown HRUN7.out.2.grown (Nat.le_of_lt (Nat.lt_of_le_of_lt HBS.out HO.out.lt)) (fun k e => by cases e; exact HBS.out), fun g hg hgr => (HRUN7.out.2.grown.block g (Nat.lt_trans (Nat.lt_of_lt_of_le hg HMB.out) HO.out.lt) (fun e => by have := Option.some.inj e; have := HMB.out; omega)).trans ((Below.heap_setCell _ ⟨rt, 0, none⟩ _ g hgr).trans (Below.heap_alloc w _ g (Nat.lt_of_lt_of_le hg HMB.out)))⟩
set_option maxHeartbeats 8000000 in
set_option maxRecDepth 1000000 in
theorem SetR.emptycase [Inhabited (Int → Addr)] (rt base mb n b : Nat) (R : Int → Option Int) (m v : Int) (w : World) (D : DataW Unit) (hb0 : w.heap[rt]? = some (.cells #[.map (some b)] 26 (0, 0))) (hbb : mb ≤ b) (hne0 : b ≠ rt) (ho : w.ownsMap Tryd.prog 3 (plainElem Tryd.prog 2) b n D) (hT : ReadsR D R) (hz : Go.Maps.size D = 0) (hbt : base ≤ rt) (hbm : base ≤ mb) (hmb : mb ≤ w.heap.size) (hn : n < 1000) (h : setOK m v) :
    Calls Tryd.prog 7 #[.pointer (some ⟨rt, 0, none⟩), .int .i64 m, .int .i64 v] w fun e w' => e = .returned .nilIface ∧ TbR rt mb (n + 1) (updR R m v) w' ∧ Below base w w' ∧ ∀ g, g < mb → g ≠ rt → w'.heap[g]? = w.heap[g]? := by
  have hu2 := Tryd.underlying26
  have hu3 := Tryd.underlying24
  have HR := Aside0.mk (rg_ok h)
  have HBT := Aside0.mk hbt
  have HBS := Aside0.mk (Nat.le_trans hbm hmb)
  have HBM := Aside0.mk hbm
  have HMB := Aside0.mk hmb
  have HN := Aside0.mk hn
  have HB := Aside0.mk (Below.refl w.heap.size w)
  have BK := Aside0.mk hb0
  unfold setOK at h
  have ca1 : decide (m ≤ 1) = false := decide_eq_false (by omega)
  have ca2 : (m ≤ 1) = False := eq_false (by omega)
  have cb1 : decide (m > 6) = false := decide_eq_false (by omega)
  have cb2 : (m > 6) = False := eq_false (by omega)
  have cb3 : decide (6 < m) = false := decide_eq_false (by omega)
  have cb4 : (6 < m) = False := eq_false (by omega)
  have cc1 : decide (v < 1) = false := decide_eq_false (by omega)
  have cc2 : (v < 1) = False := eq_false (by omega)
  have cd1 : decide (v > 1000000000) = false := decide_eq_false (by omega)
  have cd2 : (v > 1000000000) = False := eq_false (by omega)
  have cd3 : decide (1000000000 < v) = false := decide_eq_false (by omega)
  have cd4 : (1000000000 < v) = False := eq_false (by omega)
  have HT0 : Aside0 (ReadsR (.map []) R) := ⟨by rw [← nil_sizeR ho.isMap hz]; exact hT⟩
  have HOB := Aside0.mk ho
  have cz0 : decide ((Go.Maps.size D : Int) = 0) = true := decide_eq_true (by omega)
  have cz1 : ((Go.Maps.size D : Int) = 0) = True := eq_true (by omega)
  have cz2 : (Go.Maps.size D = 0) = True := eq_true hz
  have cz3 : ((Go.Maps.size D : Int) == 0) = true := beq_iff_eq.mpr (by omega)
  clear hT hbb hne0 ho hz
  have k2 := (blk_cell BK.out 0).trans (show _ = some (.map (some b)) from rfl)
  have f2 := blk_frozen BK.out 0
  have kA := (blk_cell (tb_alloc BK.out (.map #[] 0)) 0).trans (show _ = some (.map (some b)) from rfl)
  have fA := blk_frozen (tb_alloc BK.out (.map #[] 0)) 0
  have hne := Nat.ne_of_gt (blk_lt BK.out)
  have HO := Aside0.mk (((World.ownsMap_made (H := Unit) w Tryd.prog 3 (plainElem Tryd.prog 2)).setCell (a := ⟨rt, 0, none⟩) hne (.map (some w.heap.size))).mono (Nat.zero_le n))
  have BK5 := Aside0.mk (blk_put (tb_alloc BK.out (.map #[] 0)) 0 (.map (some w.heap.size)) rfl)
  have HB5 := Aside0.mk ((((HB.out.mono HBS.out).alloc HBS.out (.map #[] 0)).setCell (p := ⟨rt, 0, none⟩) HBT.out (.map (some w.heap.size))))
  have HNB := Aside0.mk hne
  obtain ⟨w7, hrun, hown, hturn⟩ := HO.out.store rateKeyed Tryd.underlying24 (room HN.out) (rk_key m HR.out.1) (plainElem_int Tryd.underlying2 (rg_wf HR.out.2))
  have HRUN7 := Aside0.mk (And.intro hown hturn)
  have HIM := Aside0.mk HO.out.isMap
  clear hb0 hbt hbm hmb hn h hne hown hturn
  have hmm := @run_makeMap Tryd.prog
  go_enter Tryd.func7, Tryd.ntmps7
  go_wp2_with (at_len; refine wpList_len_own _ rfl _ 24 rfl 3 2 Tryd.underlying24 (plainElem Tryd.prog 2) b n D rfl HOB.out ?_)
  go_ret
  exact ⟨rfl, Or.inr ⟨w.heap.size, _, turn_blk HRUN7.out.2 BK5.out HNB.out.symm, HMB.out, HNB.out, HRUN7.out.1, reads_put HIM.out HT0.out m v HR.out.1⟩, HB5.out.grown HRUN7.out.2.grown (Nat.le_of_lt (Nat.lt_of_le_of_lt HBS.out HO.out.lt)) (fun k e => by cases e; exact HBS.out), fun g hg hgr => (HRUN7.out.2.grown.block g (Nat.lt_trans (Nat.lt_of_lt_of_le hg HMB.out) HO.out.lt) (fun e => by have := Option.some.inj e; have := HMB.out; omega)).trans ((Below.heap_setCell _ ⟨rt, 0, none⟩ _ g hgr).trans (Below.heap_alloc w _ g (Nat.lt_of_lt_of_le hg HMB.out)))⟩
set_option maxHeartbeats 8000000 in
set_option maxRecDepth 1000000 in
theorem SetR.fullcase [Inhabited (Int → Addr)] (rt base mb n b : Nat) (R : Int → Option Int) (m v : Int) (w : World) (D : DataW Unit) (hb0 : w.heap[rt]? = some (.cells #[.map (some b)] 26 (0, 0))) (hbb : mb ≤ b) (hne0 : b ≠ rt) (ho : w.ownsMap Tryd.prog 3 (plainElem Tryd.prog 2) b n D) (hT : ReadsR D R) (hz : ¬ Go.Maps.size D = 0) (hbt : base ≤ rt) (hbm : base ≤ mb) (hmb : mb ≤ w.heap.size) (hn : n < 1000) (h : setOK m v) :
    Calls Tryd.prog 7 #[.pointer (some ⟨rt, 0, none⟩), .int .i64 m, .int .i64 v] w fun e w' => e = .returned .nilIface ∧ TbR rt mb (n + 1) (updR R m v) w' ∧ Below base w w' ∧ ∀ g, g < mb → g ≠ rt → w'.heap[g]? = w.heap[g]? := by
  have hu2 := Tryd.underlying26
  have hu3 := Tryd.underlying24
  have HR := Aside0.mk (rg_ok h)
  have HBT := Aside0.mk hbt
  have HBS := Aside0.mk (Nat.le_trans hbm hmb)
  have HBM := Aside0.mk hbm
  have HMB := Aside0.mk hmb
  have HN := Aside0.mk hn
  have HB := Aside0.mk (Below.refl w.heap.size w)
  have BK := Aside0.mk hb0
  unfold setOK at h
  have ca1 : decide (m ≤ 1) = false := decide_eq_false (by omega)
  have ca2 : (m ≤ 1) = False := eq_false (by omega)
  have cb1 : decide (m > 6) = false := decide_eq_false (by omega)
  have cb2 : (m > 6) = False := eq_false (by omega)
  have cb3 : decide (6 < m) = false := decide_eq_false (by omega)
  have cb4 : (6 < m) = False := eq_false (by omega)
  have cc1 : decide (v < 1) = false := decide_eq_false (by omega)
  have cc2 : (v < 1) = False := eq_false (by omega)
  have cd1 : decide (v > 1000000000) = false := decide_eq_false (by omega)
  have cd2 : (v > 1000000000) = False := eq_false (by omega)
  have cd3 : decide (1000000000 < v) = false := decide_eq_false (by omega)
  have cd4 : (1000000000 < v) = False := eq_false (by omega)
  have HT0 := Aside0.mk hT
  have HOB := Aside0.mk ho
  have HNB := Aside0.mk hne0
  have HBB := Aside0.mk hbb
  have cz0 : decide ((Go.Maps.size D : Int) = 0) = false := decide_eq_false (by omega)
  have cz1 : ((Go.Maps.size D : Int) = 0) = False := eq_false (by omega)
  have cz2 : (Go.Maps.size D = 0) = False := eq_false hz
  have cz3 : ((Go.Maps.size D : Int) == 0) = false := beq_false_of_ne (by omega)
  clear hT hbb hne0 ho hz
  have k2 := (blk_cell BK.out 0).trans (show _ = some (.map (some b)) from rfl)
  have f2 := blk_frozen BK.out 0
  obtain ⟨w7, hrun, hown, hturn⟩ := HOB.out.store rateKeyed Tryd.underlying24 (room HN.out) (rk_key m HR.out.1) (plainElem_int Tryd.underlying2 (rg_wf HR.out.2))
  have HRUN7 := Aside0.mk (And.intro hown hturn)
  have HIM := Aside0.mk HOB.out.isMap
  clear hb0 hbt hbm hmb hn h hown hturn
  go_enter Tryd.func7, Tryd.ntmps7
  go_wp2_with (at_len; refine wpList_len_own _ rfl _ 24 rfl 3 2 Tryd.underlying24 (plainElem Tryd.prog 2) b n D rfl HOB.out ?_)
  go_ret
  exact ⟨rfl, Or.inr ⟨b, _, turn_blk HRUN7.out.2 BK.out HNB.out.symm, HBB.out, HNB.out, HRUN7.out.1, reads_put HIM.out HT0.out m v HR.out.1⟩, (HB.out.mono HBS.out).grown HRUN7.out.2.grown HBS.out (fun k e => by cases e; exact Nat.le_trans HBM.out HBB.out), fun g hg hgr => HRUN7.out.2.grown.block g (Nat.lt_of_lt_of_le hg HMB.out) (fun e => by have := Option.some.inj e; have := HBB.out; omega)⟩
theorem SetR.calls [Inhabited (Int → Addr)] (rt base mb n : Nat) (R : Int → Option Int) (m v : Int) (w : World) (hG : GlobOK w) (hT : TbR rt mb n R w) (hbt : base ≤ rt) (hbm : base ≤ mb) (hmb : mb ≤ w.heap.size) (hn : n < 1000) :
    Calls Tryd.prog 7 #[.pointer (some ⟨rt, 0, none⟩), .int .i64 m, .int .i64 v] w fun e w' => e = .returned (errW (setE m v)) ∧ TbR rt mb (n + 1) (setR R m v) w' ∧ Below base w w' ∧ ∀ g, g < mb → g ≠ rt → w'.heap[g]? = w.heap[g]? := by
  unfold setE setR
  by_cases h : setOK m v
  · rw [if_pos h, if_pos h, errW_none]
    rcases hT with ⟨h0, hT⟩ | ⟨b, D, h0, hbb, hne, ho, hT⟩
    · exact SetR.nilcase rt base mb n R m v w h0 hT hbt hbm hmb hn h
    · by_cases hz : Go.Maps.size D = 0
      · exact SetR.emptycase rt base mb n b R m v w D h0 hbb hne ho hT hz hbt hbm hmb hn h
      · exact SetR.fullcase rt base mb n b R m v w D h0 hbb hne ho hT hz hbt hbm hmb hn h
  · rw [if_neg h, if_neg h]
    refine (SetR.bad rt m v w hG h).mono ?_
    rintro e w' ⟨rfl, hb⟩
    refine ⟨rfl, ?_, hb.mono (Nat.le_trans hbm hmb), fun g hg _ => hb.block g (Nat.lt_of_lt_of_le hg hmb)⟩
    rcases hT.below hb with ⟨h0, hT⟩ | ⟨b, D, h0, hbb, hne, ho, hT⟩
    · exact Or.inl ⟨h0, hT⟩
    · exact Or.inr ⟨b, D, h0, hbb, hne, ho.mono (Nat.le_succ n), hT⟩
def fxF : Nat := 2000
/-- What Base answers. -/
def baseR (k : Nat) (R : Int → Option Int) (v m : Int) : Option (Int × Option Int) := if (getR R m).2 = true then money_Base.f k v (getR R m).1 else some (0, some 106)
set_option maxHeartbeats 4000000 in
set_option maxRecDepth 100000 in
theorem BaseR.calls [Inhabited (Int → Addr)] (k rt base n : Nat) (R : Int → Option Int) (v m : Int) (r1 : Int) (r2 : Option Int) (w : World) (hG : GlobOK w) (hT : TbR rt base n R w) (hm : rg64 m) (h : baseR k R v m = some (r1, r2)) :
    Calls Tryd.prog 12 #[.pointer (some ⟨rt, 0, none⟩), .int .i64 v, .int .i64 m] w fun e w' => e = .returned (.tuple #[.int .i64 r1, errW r2]) ∧ Below w.heap.size w w' := by
  unfold baseR at h
  have HG := Aside0.mk hG
  have HT := Aside0.mk hT
  have HM := Aside0.mk hm
  have HB := Aside0.mk (Below.refl w.heap.size w)
  obtain ⟨g1, hg1⟩ : ∃ g1, g1 = (getR R m).1 := ⟨_, rfl⟩
  obtain ⟨g2, hg2⟩ : ∃ g2, g2 = (getR R m).2 := ⟨_, rfl⟩
  rw [← hg1, ← hg2] at h
  have HG1 := Aside0.mk hg1
  have HG2 := Aside0.mk hg2
  clear hG hT hm hg1 hg2
  cases g2 with
  | true =>
    rw [if_pos rfl] at h
    have HMB := Aside0.mk h
    clear h
    go_enter Tryd.func12, Tryd.ntmps12
    go_wp2_with (first
      | (go_at_call 9; have hN := GetR.calls rt base n R m _ (HT.out.below HB.out) HM.out; rw [← HG1.out, ← HG2.out] at hN; (with_reducible refine hN.mono ?_); clear hN; rintro e w_ ⟨rfl, hb⟩; have n_ := Aside0.mk (below_step HB.out hb); clear HB; have HB := n_; clear n_; clear hb)
      | (go_at_call 19; have hN := money_Base.calls k v g1 r1 r2 _ (HG.out.below HB.out) HMB.out; (with_reducible refine hN.mono ?_); clear hN; rintro e w_ ⟨rfl, hb⟩; have n_ := Aside0.mk (below_step HB.out hb); clear HB; have HB := n_; clear n_; clear hb))
    go_ret2
    exact ⟨rfl, HB.out⟩
  | false =>
    rw [if_neg (by simp)] at h
    obtain ⟨rfl, rfl⟩ := Prod.mk.inj (Option.some.inj h)
    clear h
    go_enter Tryd.func12, Tryd.ntmps12
    go_wp2_with (go_at_call 9; have hN := GetR.calls rt base n R m _ (HT.out.below HB.out) HM.out; rw [← HG1.out, ← HG2.out] at hN; (with_reducible refine hN.mono ?_); clear hN; rintro e w_ ⟨rfl, hb⟩; have n_ := Aside0.mk (below_step HB.out hb); clear HB; have HB := n_; clear n_; clear hb; have hwg := GlobOK.at (HG.out.below HB.out) 106 1 (by simp [globTab]))
    repeat (go_quiet (first | fail); try go_wp2)
    go_ret2
    exact ⟨by first | rfl | simp [errW_some], by repeat (first | (with_reducible first | exact HB.out | apply below_alloc | apply pw_below_drewN | apply below_drew1) | exact HB.out)⟩
/-- The chapter's examples. -/
def pledgelaw13_first.f : Option Bool := (money_Base.f fxF 5 1000000).bind fun z => if z = (5, none) then some true else none
def noR : Int → Option Int := fun _ => none
set_option maxHeartbeats 4000000 in
set_option maxRecDepth 100000 in
theorem pledgelaw13_first.calls [Inhabited (Int → Addr)] (r : Bool) (w : World) (hG : GlobOK w) (h : pledgelaw13_first.f = some r) :
    Calls Tryd.prog 5 #[] w fun e w' => e = .returned (.bool r) ∧ Below w.heap.size w w' := by
  unfold pledgelaw13_first.f at h
  obtain ⟨z, hz, h⟩ := Option.bind_eq_some_iff.mp h
  by_cases hq : z = (5, none)
  rotate_left
  · rw [if_neg hq] at h; exact absurd h (by simp)
  rw [if_pos hq] at h
  obtain rfl := Option.some.inj h
  subst hq
  have HG := Aside0.mk hG
  have HZ := Aside0.mk (show baseR fxF noR 5 1 = some (5, none) from hz)
  have HB := Aside0.mk (Below.refl w.heap.size w)
  have hu2 := Tryd.underlying26
  clear hG hz h
  go_enter Tryd.func5, Tryd.ntmps5
  go_wp2_with (first
    | ((with_reducible refine gate_dst (N := 1) rfl ?_); refine box_event ?hg (N := 1) ?hd (cs := #[.map none]) (t := 26) ?hr ?_; (case hd => rfl); (case hg => rfl); (case hr => first | (go_simp; done) | (go_simp; rfl)); intro rt hg_ w_ hbox hb; have n_ := Aside0.mk (below_step HB.out hb); clear HB; have HB := n_; clear n_; have BTB := Aside0.mk hbox; clear hb hbox hg_)
    | (go_at_call 12; have hN := BaseR.calls fxF rt 0 0 noR 5 1 5 none _ (HG.out.below HB.out) (Or.inl ⟨BTB.out, fun _ => rfl⟩) (by unfold rg64; omega) HZ.out; simp only [errW_none] at hN; (with_reducible refine hN.mono ?_); clear hN; rintro e w_ ⟨rfl, hb⟩; have n_ := Aside0.mk (below_step HB.out hb); clear HB; have HB := n_; clear n_; clear hb))
  go_ret
  exact ⟨by first | rfl | simp, HB.out⟩
/-! ### The document's rates -/
def yR (R : Int → Option Int) (m : Int) : Int := (R m).getD 0
/-- Block gy holds the document's rates. -/
def TbY (gy : Nat) (R : Int → Option Int) (w : World) : Prop := w.heap[gy]? = some (.cells #[.int .i64 0, .int .i64 0, .int .i64 (yR R 2), .int .i64 (yR R 3), .int .i64 (yR R 4), .int .i64 (yR R 5), .int .i64 (yR R 6)] 37 (0, 0))
def GoodR (R : Int → Option Int) : Prop := ∀ m v, R m = some v → (2 ≤ m ∧ m ≤ 6) ∧ 1 ≤ v ∧ v ≤ 1000000000
theorem good_no : GoodR noR := fun m v h => absurd h (by simp [noR])
theorem good_set {R : Int → Option Int} (h : GoodR R) (m v : Int) : GoodR (setR R m v) := by
  intro m' v' e
  unfold setR at e
  split at e
  · rename_i hok
    unfold updR at e
    split at e
    · rename_i em
      subst em
      have ev := Option.some.inj e
      subst ev
      exact hok
    · exact h m' v' e
  · exact h m' v' e
def setC (m v : Int) : Int := if setOK m v then 0 else 103
theorem in_f (m : Int) : pledgeref10_in.f m 2 6 = some (decide (2 ≤ m ∧ m ≤ 6)) := by
  unfold pledgeref10_in.f
  by_cases h : m ≥ 2
  · rw [if_pos h]; congr 1; exact decide_eq_decide.2 ⟨fun x => ⟨h, x⟩, fun x => x.2⟩
  · rw [if_neg h, decide_eq_false (fun x => h x.1)]
theorem TbR.keep {rt mb n gy : Nat} {R : Int → Option Int} {w w' : World} (h : TbR rt mb n R w) (hk : ∀ g, g < w.heap.size → g ≠ gy → w'.heap[g]? = w.heap[g]?) (h1 : rt ≠ gy) (h2 : gy < mb) : TbR rt mb n R w' := by
  rcases h with ⟨h, hT⟩ | ⟨b, D, h, hl, hne, ⟨es, clock, he, r⟩, hT⟩
  · exact Or.inl ⟨(hk rt (blk_lt h) h1).trans h, hT⟩
  · exact Or.inr ⟨b, D, (hk rt (blk_lt h) h1).trans h, hl, hne, ⟨es, clock, (hk b (blk_lt he) (by omega)).trans he, r⟩, hT⟩
set_option maxHeartbeats 4000000 in
set_option maxRecDepth 100000 in
theorem SetY.bad [Inhabited (Int → Addr)] (gy base : Nat) (R : Int → Option Int) (m v : Int) (w : World) (hY : TbY gy R w) (hb1 : base ≤ gy) (hb2 : base ≤ w.heap.size) (h : ¬ setOK m v) :
    Calls Tryd.prog 10 #[.pointer (some ⟨gy, 0, none⟩), .int .i64 m, .int .i64 v] w fun e w' => e = .returned (.int .i64 (setC m v)) ∧ TbY gy (setR R m v) w' ∧ Below base w w' ∧ ∀ g, g < w.heap.size → g ≠ gy → w'.heap[g]? = w.heap[g]? := by
  have hu1 := Tryd.underlying37
  have hu2 := Tryd.underlying35
  have BK := Aside0.mk hY
  have HB1 := Aside0.mk hb1
  have HB2 := Aside0.mk hb2
  have HB := Aside0.mk (Below.refl w.heap.size w)
  have e1 : setC m v = 103 := if_neg h
  have e2 : setR R m v = R := if_neg h
  rw [e1, e2]
  unfold setOK at h
  clear hY hb1 hb2 e1 e2
  by_cases hin : 2 ≤ m ∧ m ≤ 6
  rotate_left
  · have HIN : Aside0 (decide (2 ≤ m ∧ m ≤ 6) = false) := ⟨decide_eq_false hin⟩
    clear hin
    clear h
    go_enter Tryd.func10, Tryd.ntmps10
    go_wp2_with (go_at_call 18; have hN := fun W_ => pledgeref10_in.calls m 2 6 false W_ (by rw [in_f]; exact congrArg some HIN.out); (with_reducible refine (hN _).mono ?_); clear hN; rintro e w_ ⟨rfl, hd⟩; have hb := hd.below; have n_ := Aside0.mk (below_step HB.out hb); clear HB; have HB := n_; clear n_; have n_ := Aside0.mk (blk_below BK.out hb); clear BK; have BK := n_; clear n_ hb hd)
    go_ret
    exact ⟨rfl, BK.out, HB.out.mono HB2.out, fun g hg _ => HB.out.block g hg⟩
  have HIN : Aside0 (decide (2 ≤ m ∧ m ≤ 6) = true) := ⟨decide_eq_true hin⟩
  by_cases h3 : v < 1
  · have cc1 : decide (v < 1) = true := decide_eq_true (by omega)
    have cc2 : (v < 1) = True := eq_true (by omega)
    clear hin
    clear h
    go_enter Tryd.func10, Tryd.ntmps10
    go_wp2_with (go_at_call 18; have hN := fun W_ => pledgeref10_in.calls m 2 6 true W_ (by rw [in_f]; exact congrArg some HIN.out); (with_reducible refine (hN _).mono ?_); clear hN; rintro e w_ ⟨rfl, hd⟩; have hb := hd.below; have n_ := Aside0.mk (below_step HB.out hb); clear HB; have HB := n_; clear n_; have n_ := Aside0.mk (blk_below BK.out hb); clear BK; have BK := n_; clear n_ hb hd)
    go_ret
    exact ⟨rfl, BK.out, HB.out.mono HB2.out, fun g hg _ => HB.out.block g hg⟩
  have cc1 : decide (v < 1) = false := decide_eq_false (by omega)
  have cc2 : (v < 1) = False := eq_false (by omega)
  have cd1 : decide (v > 1000000000) = true := decide_eq_true (by omega)
  have cd2 : (v > 1000000000) = True := eq_true (by omega)
  have cd3 : decide (1000000000 < v) = true := decide_eq_true (by omega)
  have cd4 : (1000000000 < v) = True := eq_true (by omega)
  clear hin
  clear h
  go_enter Tryd.func10, Tryd.ntmps10
  go_wp2_with (go_at_call 18; have hN := fun W_ => pledgeref10_in.calls m 2 6 true W_ (by rw [in_f]; exact congrArg some HIN.out); (with_reducible refine (hN _).mono ?_); clear hN; rintro e w_ ⟨rfl, hd⟩; have hb := hd.below; have n_ := Aside0.mk (below_step HB.out hb); clear HB; have HB := n_; clear n_; have n_ := Aside0.mk (blk_below BK.out hb); clear BK; have BK := n_; clear n_ hb hd)
  go_ret
  exact ⟨rfl, BK.out, HB.out.mono HB2.out, fun g hg _ => HB.out.block g hg⟩
set_option maxHeartbeats 4000000 in
set_option maxRecDepth 100000 in
theorem SetY.good [Inhabited (Int → Addr)] (gy base : Nat) (R : Int → Option Int) (m v : Int) (w : World) (hY : TbY gy R w) (hb1 : base ≤ gy) (hb2 : base ≤ w.heap.size) (h : setOK m v) :
    Calls Tryd.prog 10 #[.pointer (some ⟨gy, 0, none⟩), .int .i64 m, .int .i64 v] w fun e w' => e = .returned (.int .i64 (setC m v)) ∧ TbY gy (setR R m v) w' ∧ Below base w w' ∧ ∀ g, g < w.heap.size → g ≠ gy → w'.heap[g]? = w.heap[g]? := by
  have hu1 := Tryd.underlying37
  have hu2 := Tryd.underlying35
  have BK := Aside0.mk hY
  have HB1 := Aside0.mk hb1
  have HB2 := Aside0.mk hb2
  have HB := Aside0.mk (Below.refl w.heap.size w)
  have e1 : setC m v = 0 := if_pos h
  have e2 : setR R m v = updR R m v := if_pos h
  rw [e1, e2]
  unfold setOK at h
  have HIN : Aside0 (decide (2 ≤ m ∧ m ≤ 6) = true) := ⟨decide_eq_true h.1⟩
  have cc1 : decide (v < 1) = false := decide_eq_false (by omega)
  have cc2 : (v < 1) = False := eq_false (by omega)
  have cd1 : decide (v > 1000000000) = false := decide_eq_false (by omega)
  have cd2 : (v > 1000000000) = False := eq_false (by omega)
  have cd3 : decide (1000000000 < v) = false := decide_eq_false (by omega)
  have cd4 : (1000000000 < v) = False := eq_false (by omega)
  have hm : m = 2 ∨ m = 3 ∨ m = 4 ∨ m = 5 ∨ m = 6 := by omega
  clear hY hb1 hb2 e1 e2 h
  rcases hm with rfl | rfl | rfl | rfl | rfl
  · have y0 := (blk_cell BK.out 2).trans (show _ = some (.int .i64 (yR R 2)) from rfl)
    have yf := blk_frozen BK.out 2
    go_enter Tryd.func10, Tryd.ntmps10
    go_wp2_with (go_at_call 18; have hN := fun W_ => pledgeref10_in.calls 2 2 6 true W_ (by rw [in_f]; exact congrArg some HIN.out); (with_reducible refine (hN _).mono ?_); clear hN; rintro e w_ ⟨rfl, hd⟩; have hb := hd.below; have n_ := Aside0.mk (below_step HB.out hb); clear HB; have HB := n_; clear n_; have n_ := Aside0.mk (blk_below BK.out hb); clear BK; have BK := n_; clear n_ hb hd; (try clear y0 yf); have y0 := (blk_cell BK.out 2).trans (show _ = some (.int .i64 (yR R 2)) from rfl); have yf := blk_frozen BK.out 2)
    go_ret
    refine ⟨rfl, ?_, (HB.out.mono HB2.out).setCell (p := ⟨gy, 2, none⟩) HB1.out (.int .i64 v), fun g hg hne => (Below.heap_setCell _ ⟨gy, 2, none⟩ (.int .i64 v) g hne).trans (HB.out.block g hg)⟩
    unfold TbY
    rw [blk_put BK.out 2 (.int .i64 v) rfl]
    simp [yR, updR]
  · have y0 := (blk_cell BK.out 3).trans (show _ = some (.int .i64 (yR R 3)) from rfl)
    have yf := blk_frozen BK.out 3
    go_enter Tryd.func10, Tryd.ntmps10
    go_wp2_with (go_at_call 18; have hN := fun W_ => pledgeref10_in.calls 3 2 6 true W_ (by rw [in_f]; exact congrArg some HIN.out); (with_reducible refine (hN _).mono ?_); clear hN; rintro e w_ ⟨rfl, hd⟩; have hb := hd.below; have n_ := Aside0.mk (below_step HB.out hb); clear HB; have HB := n_; clear n_; have n_ := Aside0.mk (blk_below BK.out hb); clear BK; have BK := n_; clear n_ hb hd; (try clear y0 yf); have y0 := (blk_cell BK.out 3).trans (show _ = some (.int .i64 (yR R 3)) from rfl); have yf := blk_frozen BK.out 3)
    go_ret
    refine ⟨rfl, ?_, (HB.out.mono HB2.out).setCell (p := ⟨gy, 3, none⟩) HB1.out (.int .i64 v), fun g hg hne => (Below.heap_setCell _ ⟨gy, 3, none⟩ (.int .i64 v) g hne).trans (HB.out.block g hg)⟩
    unfold TbY
    rw [blk_put BK.out 3 (.int .i64 v) rfl]
    simp [yR, updR]
  · have y0 := (blk_cell BK.out 4).trans (show _ = some (.int .i64 (yR R 4)) from rfl)
    have yf := blk_frozen BK.out 4
    go_enter Tryd.func10, Tryd.ntmps10
    go_wp2_with (go_at_call 18; have hN := fun W_ => pledgeref10_in.calls 4 2 6 true W_ (by rw [in_f]; exact congrArg some HIN.out); (with_reducible refine (hN _).mono ?_); clear hN; rintro e w_ ⟨rfl, hd⟩; have hb := hd.below; have n_ := Aside0.mk (below_step HB.out hb); clear HB; have HB := n_; clear n_; have n_ := Aside0.mk (blk_below BK.out hb); clear BK; have BK := n_; clear n_ hb hd; (try clear y0 yf); have y0 := (blk_cell BK.out 4).trans (show _ = some (.int .i64 (yR R 4)) from rfl); have yf := blk_frozen BK.out 4)
    go_ret
    refine ⟨rfl, ?_, (HB.out.mono HB2.out).setCell (p := ⟨gy, 4, none⟩) HB1.out (.int .i64 v), fun g hg hne => (Below.heap_setCell _ ⟨gy, 4, none⟩ (.int .i64 v) g hne).trans (HB.out.block g hg)⟩
    unfold TbY
    rw [blk_put BK.out 4 (.int .i64 v) rfl]
    simp [yR, updR]
  · have y0 := (blk_cell BK.out 5).trans (show _ = some (.int .i64 (yR R 5)) from rfl)
    have yf := blk_frozen BK.out 5
    go_enter Tryd.func10, Tryd.ntmps10
    go_wp2_with (go_at_call 18; have hN := fun W_ => pledgeref10_in.calls 5 2 6 true W_ (by rw [in_f]; exact congrArg some HIN.out); (with_reducible refine (hN _).mono ?_); clear hN; rintro e w_ ⟨rfl, hd⟩; have hb := hd.below; have n_ := Aside0.mk (below_step HB.out hb); clear HB; have HB := n_; clear n_; have n_ := Aside0.mk (blk_below BK.out hb); clear BK; have BK := n_; clear n_ hb hd; (try clear y0 yf); have y0 := (blk_cell BK.out 5).trans (show _ = some (.int .i64 (yR R 5)) from rfl); have yf := blk_frozen BK.out 5)
    go_ret
    refine ⟨rfl, ?_, (HB.out.mono HB2.out).setCell (p := ⟨gy, 5, none⟩) HB1.out (.int .i64 v), fun g hg hne => (Below.heap_setCell _ ⟨gy, 5, none⟩ (.int .i64 v) g hne).trans (HB.out.block g hg)⟩
    unfold TbY
    rw [blk_put BK.out 5 (.int .i64 v) rfl]
    simp [yR, updR]
  · have y0 := (blk_cell BK.out 6).trans (show _ = some (.int .i64 (yR R 6)) from rfl)
    have yf := blk_frozen BK.out 6
    go_enter Tryd.func10, Tryd.ntmps10
    go_wp2_with (go_at_call 18; have hN := fun W_ => pledgeref10_in.calls 6 2 6 true W_ (by rw [in_f]; exact congrArg some HIN.out); (with_reducible refine (hN _).mono ?_); clear hN; rintro e w_ ⟨rfl, hd⟩; have hb := hd.below; have n_ := Aside0.mk (below_step HB.out hb); clear HB; have HB := n_; clear n_; have n_ := Aside0.mk (blk_below BK.out hb); clear BK; have BK := n_; clear n_ hb hd; (try clear y0 yf); have y0 := (blk_cell BK.out 6).trans (show _ = some (.int .i64 (yR R 6)) from rfl); have yf := blk_frozen BK.out 6)
    go_ret
    refine ⟨rfl, ?_, (HB.out.mono HB2.out).setCell (p := ⟨gy, 6, none⟩) HB1.out (.int .i64 v), fun g hg hne => (Below.heap_setCell _ ⟨gy, 6, none⟩ (.int .i64 v) g hne).trans (HB.out.block g hg)⟩
    unfold TbY
    rw [blk_put BK.out 6 (.int .i64 v) rfl]
    simp [yR, updR]
theorem SetY.calls [Inhabited (Int → Addr)] (gy base : Nat) (R : Int → Option Int) (m v : Int) (w : World) (hY : TbY gy R w) (hb1 : base ≤ gy) (hb2 : base ≤ w.heap.size) :
    Calls Tryd.prog 10 #[.pointer (some ⟨gy, 0, none⟩), .int .i64 m, .int .i64 v] w fun e w' => e = .returned (.int .i64 (setC m v)) ∧ TbY gy (setR R m v) w' ∧ Below base w w' ∧ ∀ g, g < w.heap.size → g ≠ gy → w'.heap[g]? = w.heap[g]? := by
  by_cases h : setOK m v
  · exact SetY.good gy base R m v w hY hb1 hb2 h
  · exact SetY.bad gy base R m v w hY hb1 hb2 h
set_option maxHeartbeats 8000000 in
set_option maxRecDepth 100000 in
theorem GetY.calls [Inhabited (Int → Addr)] (gy : Nat) (R : Int → Option Int) (m : Int) (w : World) (hY : TbY gy R w) (hR : GoodR R) :
    Calls Tryd.prog 11 #[.pointer (some ⟨gy, 0, none⟩), .int .i64 m] w fun e w' => e = .returned (.tuple #[.int .i64 (getR R m).1, .bool (getR R m).2]) ∧ Below w.heap.size w w' := by
  have hu1 := Tryd.underlying37
  have hu2 := Tryd.underlying35
  have BK := Aside0.mk hY
  have HB := Aside0.mk (Below.refl w.heap.size w)
  clear hY
  by_cases h1 : m = 1
  · have e : getR R m = (1000000, true) := by unfold getR; rw [if_pos h1]
    rw [e]
    have cb0 : (m == 1) = true := beq_iff_eq.mpr h1
    clear h1 hR e
    go_enter Tryd.func11, Tryd.ntmps11
    go_wp2
    go_ret2
    exact ⟨rfl, HB.out⟩
  have e : getR R m = ((R m).getD 0, (R m).isSome) := by unfold getR; rw [if_neg h1]
  rw [e]
  have cb0 : (m == 1) = false := beq_false_of_ne h1
  by_cases hin : 2 ≤ m ∧ m ≤ 6
  rotate_left
  · have hn : R m = none := by
      cases hv : R m with
      | none => rfl
      | some v => exact absurd (hR m v hv).1 hin
    rw [hn]
    have HIN : Aside0 (decide (2 ≤ m ∧ m ≤ 6) = false) := ⟨decide_eq_false hin⟩
    clear h1 hR e hin hn
    go_enter Tryd.func11, Tryd.ntmps11
    go_wp2_with (go_at_call 18; have hN := fun W_ => pledgeref10_in.calls m 2 6 false W_ (by rw [in_f]; exact congrArg some HIN.out); (with_reducible refine (hN _).mono ?_); clear hN; rintro e w_ ⟨rfl, hd⟩; have hb := hd.below; have n_ := Aside0.mk (below_step HB.out hb); clear HB; have HB := n_; clear n_; have n_ := Aside0.mk (blk_below BK.out hb); clear BK; have BK := n_; clear n_ hb hd)
    go_ret2
    exact ⟨rfl, HB.out⟩
  have HIN : Aside0 (decide (2 ≤ m ∧ m ≤ 6) = true) := ⟨decide_eq_true hin⟩
  have hm : m = 2 ∨ m = 3 ∨ m = 4 ∨ m = 5 ∨ m = 6 := by omega
  clear h1 e hin
  cases hv : R m with
  | none =>
    have cz : ((0 : Int) == 0) = true := rfl
    clear hR
    rcases hm with rfl | rfl | rfl | rfl | rfl
    · have HYV := Aside0.mk (show yR R 2 = 0 by unfold yR; rw [hv]; rfl)
      clear hv
      have y0 := (blk_cell BK.out 2).trans (show _ = some (.int .i64 0) by rw [← HYV.out]; rfl)
      have yf := blk_frozen BK.out 2
      go_enter Tryd.func11, Tryd.ntmps11
      go_wp2_with (go_at_call 18; have hN := fun W_ => pledgeref10_in.calls 2 2 6 true W_ (by rw [in_f]; exact congrArg some HIN.out); (with_reducible refine (hN _).mono ?_); clear hN; rintro e w_ ⟨rfl, hd⟩; have hb := hd.below; have n_ := Aside0.mk (below_step HB.out hb); clear HB; have HB := n_; clear n_; have n_ := Aside0.mk (blk_below BK.out hb); clear BK; have BK := n_; clear n_ hb hd; (try clear y0 yf); have y0 := (blk_cell BK.out 2).trans (show _ = some (.int .i64 0) by rw [← HYV.out]; rfl); have yf := blk_frozen BK.out 2)
      go_ret2
      exact ⟨rfl, HB.out⟩
    · have HYV := Aside0.mk (show yR R 3 = 0 by unfold yR; rw [hv]; rfl)
      clear hv
      have y0 := (blk_cell BK.out 3).trans (show _ = some (.int .i64 0) by rw [← HYV.out]; rfl)
      have yf := blk_frozen BK.out 3
      go_enter Tryd.func11, Tryd.ntmps11
      go_wp2_with (go_at_call 18; have hN := fun W_ => pledgeref10_in.calls 3 2 6 true W_ (by rw [in_f]; exact congrArg some HIN.out); (with_reducible refine (hN _).mono ?_); clear hN; rintro e w_ ⟨rfl, hd⟩; have hb := hd.below; have n_ := Aside0.mk (below_step HB.out hb); clear HB; have HB := n_; clear n_; have n_ := Aside0.mk (blk_below BK.out hb); clear BK; have BK := n_; clear n_ hb hd; (try clear y0 yf); have y0 := (blk_cell BK.out 3).trans (show _ = some (.int .i64 0) by rw [← HYV.out]; rfl); have yf := blk_frozen BK.out 3)
      go_ret2
      exact ⟨rfl, HB.out⟩
    · have HYV := Aside0.mk (show yR R 4 = 0 by unfold yR; rw [hv]; rfl)
      clear hv
      have y0 := (blk_cell BK.out 4).trans (show _ = some (.int .i64 0) by rw [← HYV.out]; rfl)
      have yf := blk_frozen BK.out 4
      go_enter Tryd.func11, Tryd.ntmps11
      go_wp2_with (go_at_call 18; have hN := fun W_ => pledgeref10_in.calls 4 2 6 true W_ (by rw [in_f]; exact congrArg some HIN.out); (with_reducible refine (hN _).mono ?_); clear hN; rintro e w_ ⟨rfl, hd⟩; have hb := hd.below; have n_ := Aside0.mk (below_step HB.out hb); clear HB; have HB := n_; clear n_; have n_ := Aside0.mk (blk_below BK.out hb); clear BK; have BK := n_; clear n_ hb hd; (try clear y0 yf); have y0 := (blk_cell BK.out 4).trans (show _ = some (.int .i64 0) by rw [← HYV.out]; rfl); have yf := blk_frozen BK.out 4)
      go_ret2
      exact ⟨rfl, HB.out⟩
    · have HYV := Aside0.mk (show yR R 5 = 0 by unfold yR; rw [hv]; rfl)
      clear hv
      have y0 := (blk_cell BK.out 5).trans (show _ = some (.int .i64 0) by rw [← HYV.out]; rfl)
      have yf := blk_frozen BK.out 5
      go_enter Tryd.func11, Tryd.ntmps11
      go_wp2_with (go_at_call 18; have hN := fun W_ => pledgeref10_in.calls 5 2 6 true W_ (by rw [in_f]; exact congrArg some HIN.out); (with_reducible refine (hN _).mono ?_); clear hN; rintro e w_ ⟨rfl, hd⟩; have hb := hd.below; have n_ := Aside0.mk (below_step HB.out hb); clear HB; have HB := n_; clear n_; have n_ := Aside0.mk (blk_below BK.out hb); clear BK; have BK := n_; clear n_ hb hd; (try clear y0 yf); have y0 := (blk_cell BK.out 5).trans (show _ = some (.int .i64 0) by rw [← HYV.out]; rfl); have yf := blk_frozen BK.out 5)
      go_ret2
      exact ⟨rfl, HB.out⟩
    · have HYV := Aside0.mk (show yR R 6 = 0 by unfold yR; rw [hv]; rfl)
      clear hv
      have y0 := (blk_cell BK.out 6).trans (show _ = some (.int .i64 0) by rw [← HYV.out]; rfl)
      have yf := blk_frozen BK.out 6
      go_enter Tryd.func11, Tryd.ntmps11
      go_wp2_with (go_at_call 18; have hN := fun W_ => pledgeref10_in.calls 6 2 6 true W_ (by rw [in_f]; exact congrArg some HIN.out); (with_reducible refine (hN _).mono ?_); clear hN; rintro e w_ ⟨rfl, hd⟩; have hb := hd.below; have n_ := Aside0.mk (below_step HB.out hb); clear HB; have HB := n_; clear n_; have n_ := Aside0.mk (blk_below BK.out hb); clear BK; have BK := n_; clear n_ hb hd; (try clear y0 yf); have y0 := (blk_cell BK.out 6).trans (show _ = some (.int .i64 0) by rw [← HYV.out]; rfl); have yf := blk_frozen BK.out 6)
      go_ret2
      exact ⟨rfl, HB.out⟩
  | some v =>
    have hv1 := (hR m v hv).2
    have cz : (v == 0) = false := beq_false_of_ne (by omega)
    clear hR hv1
    rcases hm with rfl | rfl | rfl | rfl | rfl
    · have HYV := Aside0.mk (show yR R 2 = v by unfold yR; rw [hv]; rfl)
      clear hv
      have y0 := (blk_cell BK.out 2).trans (show _ = some (.int .i64 v) by rw [← HYV.out]; rfl)
      have yf := blk_frozen BK.out 2
      go_enter Tryd.func11, Tryd.ntmps11
      go_wp2_with (go_at_call 18; have hN := fun W_ => pledgeref10_in.calls 2 2 6 true W_ (by rw [in_f]; exact congrArg some HIN.out); (with_reducible refine (hN _).mono ?_); clear hN; rintro e w_ ⟨rfl, hd⟩; have hb := hd.below; have n_ := Aside0.mk (below_step HB.out hb); clear HB; have HB := n_; clear n_; have n_ := Aside0.mk (blk_below BK.out hb); clear BK; have BK := n_; clear n_ hb hd; (try clear y0 yf); have y0 := (blk_cell BK.out 2).trans (show _ = some (.int .i64 v) by rw [← HYV.out]; rfl); have yf := blk_frozen BK.out 2)
      go_ret2
      exact ⟨rfl, HB.out⟩
    · have HYV := Aside0.mk (show yR R 3 = v by unfold yR; rw [hv]; rfl)
      clear hv
      have y0 := (blk_cell BK.out 3).trans (show _ = some (.int .i64 v) by rw [← HYV.out]; rfl)
      have yf := blk_frozen BK.out 3
      go_enter Tryd.func11, Tryd.ntmps11
      go_wp2_with (go_at_call 18; have hN := fun W_ => pledgeref10_in.calls 3 2 6 true W_ (by rw [in_f]; exact congrArg some HIN.out); (with_reducible refine (hN _).mono ?_); clear hN; rintro e w_ ⟨rfl, hd⟩; have hb := hd.below; have n_ := Aside0.mk (below_step HB.out hb); clear HB; have HB := n_; clear n_; have n_ := Aside0.mk (blk_below BK.out hb); clear BK; have BK := n_; clear n_ hb hd; (try clear y0 yf); have y0 := (blk_cell BK.out 3).trans (show _ = some (.int .i64 v) by rw [← HYV.out]; rfl); have yf := blk_frozen BK.out 3)
      go_ret2
      exact ⟨rfl, HB.out⟩
    · have HYV := Aside0.mk (show yR R 4 = v by unfold yR; rw [hv]; rfl)
      clear hv
      have y0 := (blk_cell BK.out 4).trans (show _ = some (.int .i64 v) by rw [← HYV.out]; rfl)
      have yf := blk_frozen BK.out 4
      go_enter Tryd.func11, Tryd.ntmps11
      go_wp2_with (go_at_call 18; have hN := fun W_ => pledgeref10_in.calls 4 2 6 true W_ (by rw [in_f]; exact congrArg some HIN.out); (with_reducible refine (hN _).mono ?_); clear hN; rintro e w_ ⟨rfl, hd⟩; have hb := hd.below; have n_ := Aside0.mk (below_step HB.out hb); clear HB; have HB := n_; clear n_; have n_ := Aside0.mk (blk_below BK.out hb); clear BK; have BK := n_; clear n_ hb hd; (try clear y0 yf); have y0 := (blk_cell BK.out 4).trans (show _ = some (.int .i64 v) by rw [← HYV.out]; rfl); have yf := blk_frozen BK.out 4)
      go_ret2
      exact ⟨rfl, HB.out⟩
    · have HYV := Aside0.mk (show yR R 5 = v by unfold yR; rw [hv]; rfl)
      clear hv
      have y0 := (blk_cell BK.out 5).trans (show _ = some (.int .i64 v) by rw [← HYV.out]; rfl)
      have yf := blk_frozen BK.out 5
      go_enter Tryd.func11, Tryd.ntmps11
      go_wp2_with (go_at_call 18; have hN := fun W_ => pledgeref10_in.calls 5 2 6 true W_ (by rw [in_f]; exact congrArg some HIN.out); (with_reducible refine (hN _).mono ?_); clear hN; rintro e w_ ⟨rfl, hd⟩; have hb := hd.below; have n_ := Aside0.mk (below_step HB.out hb); clear HB; have HB := n_; clear n_; have n_ := Aside0.mk (blk_below BK.out hb); clear BK; have BK := n_; clear n_ hb hd; (try clear y0 yf); have y0 := (blk_cell BK.out 5).trans (show _ = some (.int .i64 v) by rw [← HYV.out]; rfl); have yf := blk_frozen BK.out 5)
      go_ret2
      exact ⟨rfl, HB.out⟩
    · have HYV := Aside0.mk (show yR R 6 = v by unfold yR; rw [hv]; rfl)
      clear hv
      have y0 := (blk_cell BK.out 6).trans (show _ = some (.int .i64 v) by rw [← HYV.out]; rfl)
      have yf := blk_frozen BK.out 6
      go_enter Tryd.func11, Tryd.ntmps11
      go_wp2_with (go_at_call 18; have hN := fun W_ => pledgeref10_in.calls 6 2 6 true W_ (by rw [in_f]; exact congrArg some HIN.out); (with_reducible refine (hN _).mono ?_); clear hN; rintro e w_ ⟨rfl, hd⟩; have hb := hd.below; have n_ := Aside0.mk (below_step HB.out hb); clear HB; have HB := n_; clear n_; have n_ := Aside0.mk (blk_below BK.out hb); clear BK; have BK := n_; clear n_ hb hd; (try clear y0 yf); have y0 := (blk_cell BK.out 6).trans (show _ = some (.int .i64 v) by rw [← HYV.out]; rfl); have yf := blk_frozen BK.out 6)
      go_ret2
      exact ⟨rfl, HB.out⟩
/-- The currencies below s that have a rate, rising. -/
def allL (R : Int → Option Int) : Nat → List Int
  | 0 => []
  | s + 1 => allL R s ++ (if 1 ≤ s ∧ (getR R (s : Int)).2 = true then [(s : Int)] else [])
theorem allL_len (R : Int → Option Int) : ∀ s : Nat, (allL R s).length ≤ s
  | 0 => Nat.le_refl _
  | s + 1 => by
    have := allL_len R s
    simp only [allL, List.length_append]
    split <;> simp <;> omega
theorem allL_1 (R : Int → Option Int) : allL R 1 = [] := by simp [allL]
theorem allL_t (R : Int → Option Int) (s : Nat) (h1 : 1 ≤ s) (h : (getR R (s : Int)).2 = true) : allL R (s + 1) = allL R s ++ [(s : Int)] := by
  simp only [allL]
  rw [if_pos ⟨h1, h⟩]
theorem allL_f (R : Int → Option Int) (s : Nat) (h : (getR R (s : Int)).2 = false) : allL R (s + 1) = allL R s := by
  simp only [allL]
  rw [if_neg (by rw [h]; simp), List.append_nil]
set_option maxHeartbeats 8000000 in
set_option maxRecDepth 1000000 in
theorem AllR.calls [Inhabited (Int → Addr)] (rt mb n : Nat) (R : Int → Option Int) (w : World) (hT : TbR rt mb n R w) :
    Calls Tryd.prog 14 #[.pointer (some ⟨rt, 0, none⟩)] w fun e w' => ∃ v0_ : Value, e = .returned v0_ ∧ Kd.R (Kd.int .i64) 3 w' w.heap.size (fun _ => True) v0_ (allL R 7) ∧ Below w.heap.size w w' := by
  have HT := Aside0.mk hT
  have HB := Aside0.mk (Below.refl w.heap.size w)
  clear hT
  go_enter Tryd.func14, Tryd.ntmps14
  go_wp2
  go_loopg [3, 4] 7 (fun gq v_l v_m wr => ∃ (s : Nat), v_m = .int .i64 s ∧ Aside0 (1 ≤ s ∧ s ≤ 7) ∧ Aside0 (7 ≤ gq + s) ∧ Aside0 (Below w.heap.size w wr) ∧ Aside0 (Kd.R (Kd.int .i64) 3 wr w.heap.size (fun _ => True) v_l (allL R s)))
  case atStart => exact ⟨1, rfl, ⟨by omega⟩, ⟨by omega⟩, HB, ⟨by rw [allL_1]; exact Kd.R_nil _ _ _ _ _⟩⟩
  case round =>
    clear HB
    obtain ⟨s, rfl, HSS, HKS, HB, HO⟩ := hrel
    by_cases hlt : s ≤ 6
    · have cb1 : decide ((s : Int) ≤ 6) = true := decide_eq_true (by omega)
      have cb2 : decide (s ≤ 6) = true := decide_eq_true (by omega)
      have cb3 : (s ≤ 6) = True := eq_true (by omega)
      have cb4 : ((s : Int) ≤ 6) = True := eq_true (by omega)
      have HLS := Aside0.mk hlt
      have HW : Aside0 (wrap64 ((s : Int) + 1) = ((s + 1 : Nat) : Int)) := ⟨by unfold wrap64; omega⟩
      obtain ⟨q1, hq1⟩ : ∃ q, q = (getR R (s : Int)).1 := ⟨_, rfl⟩
      obtain ⟨q2, hq2⟩ : ∃ q, q = (getR R (s : Int)).2 := ⟨_, rfl⟩
      have HQ1 := Aside0.mk hq1
      have HQ2 := Aside0.mk hq2
      clear hlt hq1 hq2
      cases q2 with
      | true =>
        go_wp2_with (first
          | (go_at_call 9; have hN := GetR.calls rt mb n R (s : Int) _ (HT.out.below HB.out) (by have := HSS.out; unfold rg64; omega); rw [← HQ1.out, ← HQ2.out] at hN; (with_reducible refine hN.mono ?_); clear hN; rintro e w_ ⟨rfl, hb⟩; have n6_ := Aside0.mk (Kd.R_below HO.out hb); clear HO; have HO := n6_; clear n6_; have n_ := Aside0.mk (below_step HB.out hb); clear HB; have HB := n_; clear n_; clear hb)
          | ((with_reducible refine gate_builtin (b := .append) (xs := #[.tmp 18, .tmp 20]) rfl ?_); at_builtin; refine Kd.R_append (Kd.int .i64) w.heap.size rfl (.tmp 18) (.tmp 20) 41 3 (.int .i64 0) 8 rfl Tryd.underlying41 (by kernel_rfl) rfl (by decide) (by omega) u3 (allL R s) (s) [.int .i64 (s)] (fun _ => True) (fun _ => False) rfl (by first | (go_simp; done) | (go_simp; rfl)) ?aP (fun _ hk => hk.elim) (fun _ _ => trivial) ?aO (Below.refl _ _) ?aS ?aL ?_; (case aP => exact rfl); (case aO => exact HO.out); (case aS => exact below_size HB.out); (case aL => have h_ := allL_len R s; have := HSS.out; omega); intro v2_ w_ ho hb hg_ hat; have n1_ := Aside0.mk (HB.out.trans hb); clear HB HO; have HB := n1_; have HO := Aside0.mk ho; clear n1_ ho hb hg_ hat))
        go_roundg (6 - s)
        case measure => have := HKS.out; have := HLS.out; omega
        case rel => exact ⟨s + 1, by first | rw [HW.out] | rfl, ⟨by have := HSS.out; have := HLS.out; omega⟩, ⟨by have := HLS.out; omega⟩, HB, ⟨by rw [allL_t R s HSS.out.1 HQ2.out.symm]; exact HO.out⟩⟩
      | false =>
        go_wp2_with (first
          | (go_at_call 9; have hN := GetR.calls rt mb n R (s : Int) _ (HT.out.below HB.out) (by have := HSS.out; unfold rg64; omega); rw [← HQ1.out, ← HQ2.out] at hN; (with_reducible refine hN.mono ?_); clear hN; rintro e w_ ⟨rfl, hb⟩; have n6_ := Aside0.mk (Kd.R_below HO.out hb); clear HO; have HO := n6_; clear n6_; have n_ := Aside0.mk (below_step HB.out hb); clear HB; have HB := n_; clear n_; clear hb))
        go_roundg (6 - s)
        case measure => have := HKS.out; have := HLS.out; omega
        case rel => exact ⟨s + 1, by first | rw [HW.out] | rfl, ⟨by have := HSS.out; have := HLS.out; omega⟩, ⟨by have := HLS.out; omega⟩, HB, ⟨by rw [allL_f R s HQ2.out.symm]; exact HO.out⟩⟩
    · obtain rfl : s = 7 := by have := HSS.out; omega
      clear hlt HSS HKS
      go_wp2
      go_ret
      exact ⟨_, rfl, HO.out, HB.out⟩
/-- The rates behind the first i that are set. -/
def ratesL (l : List S39) : Nat → (Int → Option Int)
  | 0 => noR
  | i + 1 => setR (ratesL l i) (rd_T39 l (i : Int)).f0 (rd_T39 l (i : Int)).f1
theorem rates_good (l : List S39) : ∀ i : Nat, GoodR (ratesL l i)
  | 0 => good_no
  | i + 1 => good_set (rates_good l i) _ _
/-- What holds of an amount in the base. -/
def playOK (R : Int → Option Int) (v m : Int) : Prop := rg64 m ∧ pledgesee_Is.f none 0 = some true ∧ pledgesee_Is.f (some 103) 103 = some true ∧ pledgeref_SameInts.f fxF (allL R 7) (allL R 7) = some true ∧ ∃ n e, baseR fxF R v m = some (n, e) ∧
  ((getR R m).2 = false → n = 0 ∧ pledgesee_Is.f e 106 = some true) ∧ ((getR R m).2 = true → ∃ bad, pledgeref1_Base.f fxF v (getR R m).1 = some (n, bad) ∧ pledgesee_Is.f e bad = some true)
open Classical in
/-- The law's answer, where its facts hold. -/
noncomputable def pledgelaw13_FxPlays.f (l : List S39) (v m : Int) : Option Bool := (pledgelaw13_first.f).bind fun t => if t = true then (if 40 < l.length then some true else if playOK (ratesL l l.length) v m then some true else none) else some false
theorem at39 {w : World} {ad : Addr} {m i : Nat} {l : List S39} {x : S39} (h : Kd.C k39 w (some ad) m l) (hx : x = rd_T39 l (i : Int)) (hi : i < m) : w.cell? (ad.add (i * 2)) = some (.int .i64 x.f0) ∧ w.cell? ⟨(ad.add (i * 2)).block, (ad.add (i * 2)).off + 1, none⟩ = some (.int .i64 x.f1) := by
  obtain ⟨ad', e, h0, h1⟩ := at_T39 h (i : Int) (by omega) (by omega)
  cases e
  rw [Int.toNat_natCast] at h0 h1
  subst hx
  exact ⟨h0, h1⟩
theorem is_set (m v : Int) (h0 : pledgesee_Is.f none 0 = some true) (h1 : pledgesee_Is.f (some 103) 103 = some true) : pledgesee_Is.f (setE m v) (setC m v) = some true := by
  unfold setE setC
  by_cases h : setOK m v
  · rw [if_pos h, if_pos h]; exact h0
  · rw [if_neg h, if_neg h]; exact h1
set_option maxHeartbeats 8000000 in
set_option maxRecDepth 1000000 in
theorem pledgelaw13_FxPlays.calls [Inhabited (Int → Addr)] (A0 : Option Addr) (c0 : Nat) (l : List S39) (a1 a2 : Int) (r : Bool) (w : World) (hG : GlobOK w) (hr0 : Kd.C k39 w A0 l.length l) (hc0 : l.length ≤ c0) (h : pledgelaw13_FxPlays.f l a1 a2 = some r) :
    Calls Tryd.prog 4 #[.slice A0 l.length c0, .int .i64 a1, .int .i64 a2] w fun e w' => e = .returned (.bool r) ∧ Below w.heap.size w w' := by
  have hu1 := Tryd.underlying37
  have hu2 := Tryd.underlying26
  have hu3 := Tryd.underlying35
  have hu4 := Tryd.underlying39
  have HG := Aside0.mk hG
  have HM0 := Aside0.mk hr0
  have HC0 := Aside0.mk hc0
  have HB := Aside0.mk (Below.refl w.heap.size w)
  clear hG hr0 hc0
  unfold pledgelaw13_FxPlays.f at h
  obtain ⟨t, h1, h⟩ := Option.bind_eq_some_iff.mp h
  cases t with
  | false =>
    exfalso
    unfold pledgelaw13_first.f at h1
    obtain ⟨z, _, h1⟩ := Option.bind_eq_some_iff.mp h1
    split at h1 <;> simp at h1
  | true =>
    have H1 := Aside0.mk h1
    clear h1
    rw [if_pos rfl] at h
    by_cases h40 : 40 < l.length
    · rw [if_pos h40] at h
      obtain rfl := Option.some.inj h
      have cb0 : decide ((l.length : Int) > 40) = true := decide_eq_true (by omega)
      clear h h40
      go_enter Tryd.func4, Tryd.ntmps4
      go_wp2_with (go_at_call 5; refine (pledgelaw13_first.calls true _ (HG.out.below HB.out) H1.out).mono ?_; rintro e w_ ⟨rfl, hb⟩; have n_ := Aside0.mk (below_step HB.out hb); clear HB; have HB := n_; clear n_; clear hb)
      go_ret
      exact ⟨rfl, HB.out⟩
    rw [if_neg h40] at h
    have cb0 : decide ((l.length : Int) > 40) = false := decide_eq_false (by omega)
    by_cases hok : playOK (ratesL l l.length) a1 a2
    rotate_left
    · rw [if_neg hok] at h; exact absurd h (by simp)
    rw [if_pos hok] at h
    obtain rfl := Option.some.inj h
    have H40 := Aside0.mk (show l.length ≤ 40 by omega)
    have HF := Aside0.mk hok
    clear h h40 hok
    go_enter Tryd.func4, Tryd.ntmps4
    go_wp2_with (first
      | (go_at_call 5; refine (pledgelaw13_first.calls true _ (HG.out.below HB.out) H1.out).mono ?_; rintro e w_ ⟨rfl, hb⟩; have n_ := Aside0.mk (below_step HB.out hb); clear HB; have HB := n_; clear n_; clear hb)
      | ((with_reducible refine gate_dst (N := 8) rfl ?_); refine box_event ?hg (N := 8) ?hd (cs := #[.map none]) (t := 26) ?hr ?_; (case hd => rfl); (case hg => rfl); (case hr => first | (go_simp; done) | (go_simp; rfl)); intro rt hg_ w_ hbox hb; have HRT := Aside0.mk (show w.heap.size ≤ rt from Nat.le_trans (below_size HB.out) (Nat.le_of_eq hg_.symm)); have n_ := Aside0.mk (below_step HB.out hb); clear HB; have HB := n_; clear n_; have BTB := Aside0.mk hbox; clear hb hbox hg_)
      | ((with_reducible refine gate_dst (N := 9) rfl ?_); refine box_event ?hg (N := 9) ?hd (cs := #[.int .i64 0, .int .i64 0, .int .i64 0, .int .i64 0, .int .i64 0, .int .i64 0, .int .i64 0]) (t := 37) ?hr ?_; (case hd => rfl); (case hg => rfl); (case hr => first | (go_simp; done) | (go_simp; rfl)); intro gy hg_ w_ hbox hb; have HGY := Aside0.mk (show w.heap.size ≤ gy from Nat.le_trans (below_size HB.out) (Nat.le_of_eq hg_.symm)); have HNE := Aside0.mk (show rt ≠ gy from by have := blk_lt BTB.out; omega); have n_ := Aside0.mk (below_step HB.out hb); clear HB; have HB := n_; clear n_; have n_ := Aside0.mk (blk_below BTB.out hb); clear BTB; have BTB := n_; clear n_; have BYB := Aside0.mk hbox; clear hb hbox hg_))
    clear cb0
    have HT : Aside0 (TbR rt w_.heap.size 0 (ratesL l 0) w_) := ⟨Or.inl ⟨BTB.out, fun _ => rfl⟩⟩
    have HY : Aside0 (TbY gy (ratesL l 0) w_) := ⟨BYB.out.trans rfl⟩
    have HRM := Aside0.mk (blk_lt BTB.out)
    have HYM := Aside0.mk (blk_lt BYB.out)
    have HWM := Aside0.mk (below_size HB.out)
    have HMW := Aside0.mk (Nat.le_refl w_.heap.size)
    clear BTB BYB
    obtain ⟨mb, hmb⟩ : ∃ mb, mb = w_.heap.size := ⟨_, rfl⟩
    rw [← hmb] at HT HRM HYM HWM HMW
    have HMW : Aside0 (mb ≤ w_.heap.size) := ⟨by rw [hmb]; exact Nat.le_refl _⟩
    clear hmb
    go_loopg [10] l.length (fun gq v10 wr => ∃ (i : Nat), v10 = .int .i64 i ∧ Aside0 (i ≤ l.length) ∧ Aside0 (l.length ≤ gq + i) ∧ Aside0 (Below w.heap.size w wr) ∧ Aside0 (TbR rt mb i (ratesL l i) wr) ∧ Aside0 (TbY gy (ratesL l i) wr) ∧ Aside0 (mb ≤ wr.heap.size))
    case atStart => exact ⟨0, rfl, ⟨by omega⟩, ⟨by omega⟩, HB, HT, HY, HMW⟩
    case round =>
      clear HB HT HY HMW
      obtain ⟨i, rfl, HI, HKI, HB, HT, HY, HMW⟩ := hrel
      by_cases hlt : i < l.length
      · have cb1 : decide ((i : Int) < (l.length : Int)) = true := decide_eq_true (by omega)
        have cb2 : ((i : Int) < (l.length : Int)) = True := eq_true (by omega)
        have cb3 : (i < l.length) = True := eq_true (by omega)
        have cb4 : decide (i < l.length) = true := decide_eq_true (by omega)
        have HLI := Aside0.mk hlt
        have HW : Aside0 (wrap64 ((i : Int) + 1) = ((i + 1 : Nat) : Int)) := ⟨by have := H40.out; unfold wrap64; omega⟩
        obtain ⟨ad, eA, hx0, hx1⟩ := at_T39 (Kd.C_below HM0.out HB.out) (i : Int) (by omega) (by omega)
        subst eA
        rw [Int.toNat_natCast] at hx0 hx1
        obtain ⟨x, hxe⟩ : ∃ x, x = rd_T39 l (i : Int) := ⟨_, rfl⟩
        rw [← hxe] at hx0 hx1
        have HX := Aside0.mk hxe
        clear hlt hxe
        go_wp2
        refine start_ (n := 24) (S := fun w' => w'.cell? (ad.add (i * 2)) = some (.int .i64 x.f0) ∧ w'.cell? ⟨(ad.add (i * 2)).block, (ad.add (i * 2)).off + 1, none⟩ = some (.int .i64 x.f1)) (ds := []) #[false, false, false, false, false, false, false, false, false, false, false, false, false, false, false, false, false, false, false, false, false, false, false, false] (by kernel_rfl) rfl rfl ⟨hx0, hx1⟩ (fun hHeld => ?_)
        have n1_ := Aside0.mk (Below.drew HB.out)
        have n2_ := Aside0.mk (HT.out.below (Below.drew (Below.refl _ _)))
        have n3_ := Aside0.mk (show TbY gy (ratesL l i) wr.drew from HY.out)
        have n4_ := Aside0.mk (show mb ≤ wr.drew.heap.size from HMW.out)
        clear HB HT HY HMW hx0 hx1
        have HB := n1_
        have HT := n2_
        have HY := n3_
        have HMW := n4_
        clear n1_ n2_ n3_ n4_
        generalize wr.drew = w6 at HB HT HY HMW hHeld ⊢
        refine pure_ (i := 0) (N := some 40) (v := ?_) (a' := ?_) #[true, false, false, false, false, false, false, false, false, false, false, false, false, false, false, false, false, false, false, false, false, false, false, false] rfl rfl (by kernel_rfl) (fun _ _ _ h => h) (Or.inl ⟨by rfl, ?_⟩) ?_ ?_
        rotate_left
        · intro w'
          go_simp
          with_reducible rfl
        rotate_left
        · simp only [Act.put, List.setIfInBounds_toArray, List.set_cons_zero, List.set_cons_succ, i64_w, i32_w]
          rfl
        refine pure_ (i := 1) (N := some 41) (v := ?_) (a' := ?_) #[true, true, false, false, false, false, false, false, false, false, false, false, false, false, false, false, false, false, false, false, false, false, false, false] rfl rfl (by kernel_rfl) (fun _ _ _ h => h) (Or.inl ⟨by rfl, ?_⟩) ?_ ?_
        rotate_left
        · intro w'
          go_simp
          with_reducible rfl
        rotate_left
        · simp only [Act.put, List.setIfInBounds_toArray, List.set_cons_zero, List.set_cons_succ, i64_w, i32_w]
          rfl
        refine pure_ (i := 2) (N := some 42) (v := ?_) (a' := ?_) #[true, true, true, false, false, false, false, false, false, false, false, false, false, false, false, false, false, false, false, false, false, false, false, false] rfl rfl (by kernel_rfl) (fun _ _ _ h => h) (Or.inl ⟨by rfl, ?_⟩) ?_ ?_
        rotate_left
        · intro w'
          go_simp
          with_reducible rfl
        rotate_left
        · simp only [Act.put, List.setIfInBounds_toArray, List.set_cons_zero, List.set_cons_succ, i64_w, i32_w]
          rfl
        refine pure_ (i := 3) (N := some 43) (v := ?_) (a' := ?_) #[true, true, true, true, false, false, false, false, false, false, false, false, false, false, false, false, false, false, false, false, false, false, false, false] rfl rfl (by kernel_rfl) (fun _ _ _ h => h) (Or.inl ⟨by rfl, ?_⟩) ?_ ?_
        rotate_left
        · intro w'
          go_simp
          with_reducible rfl
        rotate_left
        · simp only [Act.put, List.setIfInBounds_toArray, List.set_cons_zero, List.set_cons_succ, i64_w, i32_w]
          rfl
        refine take_ (i := 4) (N := some 44) (v := ?_) (a' := ?_) #[true, true, true, true, true, false, false, false, false, false, false, false, false, false, false, false, false, false, false, false, false, false, false, false] rfl rfl (by kernel_rfl) (fun _ _ _ h => h) (Or.inl ⟨by rfl, ?_⟩) hHeld ?_ ?_
        rotate_left
        · intro w' ⟨s0, s1⟩
          go_simp
          with_reducible rfl
        rotate_left
        · simp only [Act.put, List.setIfInBounds_toArray, List.set_cons_zero, List.set_cons_succ, i64_w, i32_w]
          rfl
        refine pure_ (i := 5) (N := some 45) (v := ?_) (a' := ?_) #[true, true, true, true, true, true, false, false, false, false, false, false, false, false, false, false, false, false, false, false, false, false, false, false] rfl rfl (by kernel_rfl) (fun _ _ _ h => h) (Or.inl ⟨by rfl, ?_⟩) ?_ ?_
        rotate_left
        · intro w'
          go_simp
          with_reducible rfl
        rotate_left
        · simp only [Act.put, List.setIfInBounds_toArray, List.set_cons_zero, List.set_cons_succ, i64_w, i32_w]
          rfl
        refine pure_ (i := 6) (N := some 46) (v := ?_) (a' := ?_) #[true, true, true, true, true, true, true, false, false, false, false, false, false, false, false, false, false, false, false, false, false, false, false, false] rfl rfl (by kernel_rfl) (fun _ _ _ h => h) (Or.inl ⟨by rfl, ?_⟩) ?_ ?_
        rotate_left
        · intro w'
          go_simp
          with_reducible rfl
        rotate_left
        · simp only [Act.put, List.setIfInBounds_toArray, List.set_cons_zero, List.set_cons_succ, i64_w, i32_w]
          rfl
        refine pure_ (i := 7) (N := some 47) (v := ?_) (a' := ?_) #[true, true, true, true, true, true, true, true, false, false, false, false, false, false, false, false, false, false, false, false, false, false, false, false] rfl rfl (by kernel_rfl) (fun _ _ _ h => h) (Or.inl ⟨by rfl, ?_⟩) ?_ ?_
        rotate_left
        · intro w'
          go_simp
          with_reducible rfl
        rotate_left
        · simp only [Act.put, List.setIfInBounds_toArray, List.set_cons_zero, List.set_cons_succ, i64_w, i32_w]
          rfl
        refine pure_ (i := 8) (N := some 48) (v := ?_) (a' := ?_) #[true, true, true, true, true, true, true, true, true, false, false, false, false, false, false, false, false, false, false, false, false, false, false, false] rfl rfl (by kernel_rfl) (fun _ _ _ h => h) (Or.inl ⟨by rfl, ?_⟩) ?_ ?_
        rotate_left
        · intro w'
          go_simp
          with_reducible rfl
        rotate_left
        · simp only [Act.put, List.setIfInBounds_toArray, List.set_cons_zero, List.set_cons_succ, i64_w, i32_w]
          rfl
        refine take_ (i := 9) (N := some 49) (v := ?_) (a' := ?_) #[true, true, true, true, true, true, true, true, true, true, false, false, false, false, false, false, false, false, false, false, false, false, false, false] rfl rfl (by kernel_rfl) (fun _ _ _ h => h) (Or.inl ⟨by rfl, ?_⟩) hHeld ?_ ?_
        rotate_left
        · intro w' ⟨s0, s1⟩
          go_simp
          with_reducible rfl
        rotate_left
        · simp only [Act.put, List.setIfInBounds_toArray, List.set_cons_zero, List.set_cons_succ, i64_w, i32_w]
          rfl
        refine pure_ (i := 11) (N := some 51) (v := ?_) (a' := ?_) #[true, true, true, true, true, true, true, true, true, true, false, true, false, false, false, false, false, false, false, false, false, false, false, false] rfl rfl (by kernel_rfl) (fun _ _ _ h => h) (Or.inl ⟨by rfl, ?_⟩) ?_ ?_
        rotate_left
        · intro w'
          go_simp
          with_reducible rfl
        rotate_left
        · simp only [Act.put, List.setIfInBounds_toArray, List.set_cons_zero, List.set_cons_succ, i64_w, i32_w]
          rfl
        refine pure_ (i := 12) (N := some 52) (v := ?_) (a' := ?_) #[true, true, true, true, true, true, true, true, true, true, false, true, true, false, false, false, false, false, false, false, false, false, false, false] rfl rfl (by kernel_rfl) (fun _ _ _ h => h) (Or.inl ⟨by rfl, ?_⟩) ?_ ?_
        rotate_left
        · intro w'
          go_simp
          with_reducible rfl
        rotate_left
        · simp only [Act.put, List.setIfInBounds_toArray, List.set_cons_zero, List.set_cons_succ, i64_w, i32_w]
          rfl
        refine pure_ (i := 13) (N := some 53) (v := ?_) (a' := ?_) #[true, true, true, true, true, true, true, true, true, true, false, true, true, true, false, false, false, false, false, false, false, false, false, false] rfl rfl (by kernel_rfl) (fun _ _ _ h => h) (Or.inl ⟨by rfl, ?_⟩) ?_ ?_
        rotate_left
        · intro w'
          go_simp
          with_reducible rfl
        rotate_left
        · simp only [Act.put, List.setIfInBounds_toArray, List.set_cons_zero, List.set_cons_succ, i64_w, i32_w]
          rfl
        refine pure_ (i := 14) (N := some 54) (v := ?_) (a' := ?_) #[true, true, true, true, true, true, true, true, true, true, false, true, true, true, true, false, false, false, false, false, false, false, false, false] rfl rfl (by kernel_rfl) (fun _ _ _ h => h) (Or.inl ⟨by rfl, ?_⟩) ?_ ?_
        rotate_left
        · intro w'
          go_simp
          with_reducible rfl
        rotate_left
        · simp only [Act.put, List.setIfInBounds_toArray, List.set_cons_zero, List.set_cons_succ, i64_w, i32_w]
          rfl
        refine take_ (i := 15) (N := some 55) (v := ?_) (a' := ?_) #[true, true, true, true, true, true, true, true, true, true, false, true, true, true, true, true, false, false, false, false, false, false, false, false] rfl rfl (by kernel_rfl) (fun _ _ _ h => h) (Or.inl ⟨by rfl, ?_⟩) hHeld ?_ ?_
        rotate_left
        · intro w' ⟨s0, s1⟩
          go_simp
          with_reducible rfl
        rotate_left
        · simp only [Act.put, List.setIfInBounds_toArray, List.set_cons_zero, List.set_cons_succ, i64_w, i32_w]
          rfl
        refine pure_ (i := 16) (N := some 56) (v := ?_) (a' := ?_) #[true, true, true, true, true, true, true, true, true, true, false, true, true, true, true, true, true, false, false, false, false, false, false, false] rfl rfl (by kernel_rfl) (fun _ _ _ h => h) (Or.inl ⟨by rfl, ?_⟩) ?_ ?_
        rotate_left
        · intro w'
          go_simp
          with_reducible rfl
        rotate_left
        · simp only [Act.put, List.setIfInBounds_toArray, List.set_cons_zero, List.set_cons_succ, i64_w, i32_w]
          rfl
        refine pure_ (i := 17) (N := some 57) (v := ?_) (a' := ?_) #[true, true, true, true, true, true, true, true, true, true, false, true, true, true, true, true, true, true, false, false, false, false, false, false] rfl rfl (by kernel_rfl) (fun _ _ _ h => h) (Or.inl ⟨by rfl, ?_⟩) ?_ ?_
        rotate_left
        · intro w'
          go_simp
          with_reducible rfl
        rotate_left
        · simp only [Act.put, List.setIfInBounds_toArray, List.set_cons_zero, List.set_cons_succ, i64_w, i32_w]
          rfl
        refine pure_ (i := 18) (N := some 58) (v := ?_) (a' := ?_) #[true, true, true, true, true, true, true, true, true, true, false, true, true, true, true, true, true, true, true, false, false, false, false, false] rfl rfl (by kernel_rfl) (fun _ _ _ h => h) (Or.inl ⟨by rfl, ?_⟩) ?_ ?_
        rotate_left
        · intro w'
          go_simp
          with_reducible rfl
        rotate_left
        · simp only [Act.put, List.setIfInBounds_toArray, List.set_cons_zero, List.set_cons_succ, i64_w, i32_w]
          rfl
        refine pure_ (i := 19) (N := some 59) (v := ?_) (a' := ?_) #[true, true, true, true, true, true, true, true, true, true, false, true, true, true, true, true, true, true, true, true, false, false, false, false] rfl rfl (by kernel_rfl) (fun _ _ _ h => h) (Or.inl ⟨by rfl, ?_⟩) ?_ ?_
        rotate_left
        · intro w'
          go_simp
          with_reducible rfl
        rotate_left
        · simp only [Act.put, List.setIfInBounds_toArray, List.set_cons_zero, List.set_cons_succ, i64_w, i32_w]
          rfl
        refine take_ (i := 20) (N := some 60) (v := ?_) (a' := ?_) #[true, true, true, true, true, true, true, true, true, true, false, true, true, true, true, true, true, true, true, true, true, false, false, false] rfl rfl (by kernel_rfl) (fun _ _ _ h => h) (Or.inl ⟨by rfl, ?_⟩) hHeld ?_ ?_
        rotate_left
        · intro w' ⟨s0, s1⟩
          go_simp
          with_reducible rfl
        rotate_left
        · simp only [Act.put, List.setIfInBounds_toArray, List.set_cons_zero, List.set_cons_succ, i64_w, i32_w]
          rfl
        refine one_ (i := 10) (N := some 50) #[true, true, true, true, true, true, true, true, true, true, true, true, true, true, true, true, true, true, true, true, true, false, false, false] rfl rfl (by kernel_rfl) (by decide) (fun K hK => ?_)
        refine goes_ Tryd.func7 (by kernel_rfl) rfl #[.pointer (some ⟨rt, 0, none⟩), .int .i64 x.f0, .int .i64 x.f1] (by rfl) rfl rfl (by (try simp only [List.map_toArray, List.map_cons, List.map_nil]); first | done | rfl) ?_
        have hN := fun W_ hG_ hT_ hs_ => SetR.calls rt w.heap.size mb i (ratesL l i) x.f0 x.f1 W_ hG_ hT_ HRT.out HWM.out hs_ (by have := HLI.out; have := H40.out; omega)
        with_reducible refine (hN _ (HG.out.below HB.out) HT.out HMW.out).mono ?_
        clear hN
        rintro e w7 ⟨rfl, ht, hb, hfr⟩
        clear hHeld
        have n0_ := Aside0.mk (show TbY gy (ratesL l i) w7 from (hfr gy HYM.out HNE.out.symm).trans HY.out)
        have n1_ := Aside0.mk (ht)
        have n2_ := Aside0.mk (Nat.le_trans HMW.out hb.size)
        have n3_ := Aside0.mk (HB.out.trans hb)
        clear HY HT HMW HB
        have HY := n0_
        have HT := n1_
        have HMW := n2_
        have HB := n3_
        clear n0_ n1_ n2_ n3_
        refine ⟨_, rfl, ?_⟩
        refine hK.out _ _ (at39 (Kd.C_below HM0.out HB.out) HX.out HLI.out) (fun hHeld => ?_)
        clear hK K
        refine norm_ (a' := ?_) ?_ ?_
        rotate_left
        · show Act.put _ (some 50) _ = _
          simp only [Act.put, List.setIfInBounds_toArray, List.set_cons_zero, List.set_cons_succ, i64_w, i32_w]
          rfl
        clear hb ht hfr
        refine one_ (i := 21) (N := some 61) #[true, true, true, true, true, true, true, true, true, true, true, true, true, true, true, true, true, true, true, true, true, true, false, false] rfl rfl (by kernel_rfl) (by decide) (fun K hK => ?_)
        refine goes_ Tryd.func10 (by kernel_rfl) rfl #[.pointer (some ⟨gy, 0, none⟩), .int .i64 x.f0, .int .i64 x.f1] (by rfl) rfl rfl (by (try simp only [List.map_toArray, List.map_cons, List.map_nil]); first | done | rfl) ?_
        have hN := fun W_ hy_ hs_ => SetY.calls gy w.heap.size (ratesL l i) x.f0 x.f1 W_ hy_ HGY.out hs_
        with_reducible refine (hN _ HY.out (below_size HB.out)).mono ?_
        clear hN
        rintro e w8 ⟨rfl, hy, hb, hfr⟩
        clear hHeld
        have n0_ := Aside0.mk (hy)
        have n1_ := Aside0.mk (HT.out.keep hfr HNE.out HYM.out)
        have n2_ := Aside0.mk (Nat.le_trans HMW.out hb.size)
        have n3_ := Aside0.mk (HB.out.trans hb)
        clear HY HT HMW HB
        have HY := n0_
        have HT := n1_
        have HMW := n2_
        have HB := n3_
        clear n0_ n1_ n2_ n3_
        refine ⟨_, rfl, ?_⟩
        refine hK.out _ _ (at39 (Kd.C_below HM0.out HB.out) HX.out HLI.out) (fun hHeld => ?_)
        clear hK K
        refine norm_ (a' := ?_) ?_ ?_
        rotate_left
        · show Act.put _ (some 61) _ = _
          simp only [Act.put, List.setIfInBounds_toArray, List.set_cons_zero, List.set_cons_succ, i64_w, i32_w]
          rfl
        clear hb hy hfr
        refine one_ (i := 22) (N := some 62) #[true, true, true, true, true, true, true, true, true, true, true, true, true, true, true, true, true, true, true, true, true, true, true, false] rfl rfl (by kernel_rfl) (by decide) (fun K hK => ?_)
        refine goes_ Tryd.func8 (by kernel_rfl) rfl #[errW (setE x.f0 x.f1), .int .i64 (setC x.f0 x.f1)] (by rfl) rfl rfl (by (try simp only [List.map_toArray, List.map_cons, List.map_nil]); first | done | rfl) ?_
        have hN := fun W_ hG_ => pledgesee_Is.calls (setE x.f0 x.f1) (setC x.f0 x.f1) true W_ hG_ (is_set _ _ HF.out.2.1 HF.out.2.2.1)
        with_reducible refine (hN _ (HG.out.below HB.out)).mono ?_
        clear hN
        rintro e w9 ⟨rfl, hb⟩
        clear hHeld
        have n0_ := Aside0.mk (show TbY gy (setR (ratesL l i) x.f0 x.f1) w9 from blk_below HY.out hb)
        have n1_ := Aside0.mk (HT.out.below hb)
        have n2_ := Aside0.mk (Nat.le_trans HMW.out hb.size)
        have n3_ := Aside0.mk (below_step HB.out hb)
        clear HY HT HMW HB
        have HY := n0_
        have HT := n1_
        have HMW := n2_
        have HB := n3_
        clear n0_ n1_ n2_ n3_
        refine ⟨_, rfl, ?_⟩
        refine hK.out _ _ (at39 (Kd.C_below HM0.out HB.out) HX.out HLI.out) (fun hHeld => ?_)
        clear hK K
        refine norm_ (a' := ?_) ?_ ?_
        rotate_left
        · show Act.put _ (some 62) _ = _
          simp only [Act.put, List.setIfInBounds_toArray, List.set_cons_zero, List.set_cons_succ, i64_w, i32_w]
          rfl
        clear hb hHeld
        refine pure_ (i := 23) (N := some 63) (v := ?_) (a' := ?_) #[true, true, true, true, true, true, true, true, true, true, true, true, true, true, true, true, true, true, true, true, true, true, true, true] rfl rfl (by kernel_rfl) (fun _ _ _ h => h) (Or.inl ⟨by rfl, ?_⟩) ?_ ?_
        rotate_left
        · intro w'
          go_simp
          with_reducible rfl
        rotate_left
        · simp only [Act.put, List.setIfInBounds_toArray, List.set_cons_zero, List.set_cons_succ, i64_w, i32_w]
          rfl
        refine done_ (by kernel_rfl) ?_
        go_wp2
        go_roundg (l.length - (i + 1))
        case measure => have := HKI.out; have := HLI.out; omega
        case rel => exact ⟨i + 1, by first | rw [HW.out] | rfl, ⟨by have := HLI.out; omega⟩, ⟨by have := HLI.out; omega⟩, HB, ⟨by have h_ := HT.out; have e_ := HX.out; subst e_; exact h_⟩, ⟨by have h_ := HY.out; have e_ := HX.out; subst e_; exact h_⟩, HMW⟩
      · obtain rfl : l.length = i := by have := HI.out; omega
        have cb1 : decide ((l.length : Int) < (l.length : Int)) = false := decide_eq_false (by omega)
        have cb2 : ((l.length : Int) < (l.length : Int)) = False := eq_false (by omega)
        have cb3 : (l.length < l.length) = False := eq_false (by omega)
        have cb4 : decide (l.length < l.length) = false := decide_eq_false (by omega)
        clear hlt HI HKI
        go_wp2
        clear cb1 cb2 cb3 cb4
        have HEND := HB
        have HG1 := Aside0.mk (HG.out.below HB.out)
        clear HG HM0 HC0 HB HMW
        have HG := HG1
        clear HG1
        generalize wr = w1 at HEND HT HY HG ⊢
        have HGD := Aside0.mk (rates_good l l.length)
        have hHF := HF.out
        obtain ⟨R, hR⟩ : ∃ R, R = ratesL l l.length := ⟨_, rfl⟩
        rw [← hR] at HT HY HGD hHF
        have HF2 := Aside0.mk hHF
        clear hHF HF hR
        have HB := Aside0.mk (Below.refl w1.heap.size w1)
        go_loopg [11, 12] 7 (fun gq v_l v_m wr => ∃ (s : Nat), v_m = .int .i64 s ∧ Aside0 (1 ≤ s ∧ s ≤ 7) ∧ Aside0 (7 ≤ gq + s) ∧ Aside0 (Below w1.heap.size w1 wr) ∧ Aside0 (Kd.R (Kd.int .i64) 3 wr w1.heap.size (fun _ => True) v_l (allL R s)))
        case atStart => exact ⟨1, rfl, ⟨by omega⟩, ⟨by omega⟩, HB, ⟨by rw [allL_1]; exact Kd.R_nil _ _ _ _ _⟩⟩
        case round =>
          clear HB
          obtain ⟨s, rfl, HSS, HKS, HB, HO⟩ := hrel
          by_cases hlt : s ≤ 6
          · have cb1 : decide ((s : Int) ≤ 6) = true := decide_eq_true (by omega)
            have cb2 : decide (s ≤ 6) = true := decide_eq_true (by omega)
            have cb3 : (s ≤ 6) = True := eq_true (by omega)
            have cb4 : ((s : Int) ≤ 6) = True := eq_true (by omega)
            have HLS := Aside0.mk hlt
            have HW : Aside0 (wrap64 ((s : Int) + 1) = ((s + 1 : Nat) : Int)) := ⟨by unfold wrap64; omega⟩
            obtain ⟨q1, hq1⟩ : ∃ q, q = (getR R (s : Int)).1 := ⟨_, rfl⟩
            obtain ⟨q2, hq2⟩ : ∃ q, q = (getR R (s : Int)).2 := ⟨_, rfl⟩
            have HQ1 := Aside0.mk hq1
            have HQ2 := Aside0.mk hq2
            clear hlt hq1 hq2
            cases q2 with
            | true =>
              go_wp2_with (first
                | (go_at_call 11; have hN := GetY.calls gy R (s : Int) _ (show TbY gy R _ from blk_below HY.out HB.out) HGD.out; rw [← HQ1.out, ← HQ2.out] at hN; (with_reducible refine hN.mono ?_); clear hN; rintro e w_ ⟨rfl, hb⟩; have n6_ := Aside0.mk (Kd.R_below HO.out hb); clear HO; have HO := n6_; clear n6_; have n_ := Aside0.mk (below_step HB.out hb); clear HB; have HB := n_; clear n_; clear hb)
                | ((with_reducible refine gate_builtin (b := .append) (xs := #[.tmp 74, .tmp 76]) rfl ?_); at_builtin; refine Kd.R_append (Kd.int .i64) w1.heap.size rfl (.tmp 74) (.tmp 76) 41 3 (.int .i64 0) 8 rfl Tryd.underlying41 (by kernel_rfl) rfl (by decide) (by omega) u11 (allL R s) (s) [.int .i64 (s)] (fun _ => True) (fun _ => False) rfl (by first | (go_simp; done) | (go_simp; rfl)) ?aP (fun _ hk => hk.elim) (fun _ _ => trivial) ?aO (Below.refl _ _) ?aS ?aL ?_; (case aP => exact rfl); (case aO => exact HO.out); (case aS => exact below_size HB.out); (case aL => have h_ := allL_len R s; have := HSS.out; omega); intro v2_ w_ ho hb hg_ hat; have n1_ := Aside0.mk (HB.out.trans hb); clear HB HO; have HB := n1_; have HO := Aside0.mk ho; clear n1_ ho hb hg_ hat))
              go_roundg (6 - s)
              case measure => have := HKS.out; have := HLS.out; omega
              case rel => exact ⟨s + 1, by first | rw [HW.out] | rfl, ⟨by have := HSS.out; have := HLS.out; omega⟩, ⟨by have := HLS.out; omega⟩, HB, ⟨by rw [allL_t R s HSS.out.1 HQ2.out.symm]; exact HO.out⟩⟩
            | false =>
              go_wp2_with (first
                | (go_at_call 11; have hN := GetY.calls gy R (s : Int) _ (show TbY gy R _ from blk_below HY.out HB.out) HGD.out; rw [← HQ1.out, ← HQ2.out] at hN; (with_reducible refine hN.mono ?_); clear hN; rintro e w_ ⟨rfl, hb⟩; have n6_ := Aside0.mk (Kd.R_below HO.out hb); clear HO; have HO := n6_; clear n6_; have n_ := Aside0.mk (below_step HB.out hb); clear HB; have HB := n_; clear n_; clear hb))
              go_roundg (6 - s)
              case measure => have := HKS.out; have := HLS.out; omega
              case rel => exact ⟨s + 1, by first | rw [HW.out] | rfl, ⟨by have := HSS.out; have := HLS.out; omega⟩, ⟨by have := HLS.out; omega⟩, HB, ⟨by rw [allL_f R s HQ2.out.symm]; exact HO.out⟩⟩
          · obtain rfl : s = 7 := by have := HSS.out; omega
            clear hlt HSS HKS
            obtain ⟨A5, c5, hv5, hl5, hC5⟩ := Kd.R_reads HO.out
            subst hv5
            clear hl5 hC5
            obtain ⟨hm64, hi0, hi1, hsm, n, e, hbr, hf, ht⟩ := HF2.out
            have HM64 := Aside0.mk hm64
            have HSM := Aside0.mk hsm
            have HBR := Aside0.mk hbr
            obtain ⟨g1, hg1⟩ : ∃ q, q = (getR R a2).1 := ⟨_, rfl⟩
            obtain ⟨g2, hg2⟩ : ∃ q, q = (getR R a2).2 := ⟨_, rfl⟩
            rw [← hg2] at hf ht
            rw [← hg1] at ht
            have HQ1 := Aside0.mk hg1
            have HQ2 := Aside0.mk hg2
            have cg1 : (g1 == g1) = true := beq_iff_eq.mpr rfl
            have cg2 : (g1 != g1) = false := by rw [bne, cg1, Bool.not_true]
            clear hm64 hi0 hi1 hsm hbr hg1 hg2 HF2
            cases g2 with
            | false =>
              obtain ⟨hn, his⟩ := hf rfl
              have cn1 : (n == 0) = true := beq_iff_eq.mpr hn
              have HIS := Aside0.mk his
              clear hf ht hn his
              go_wp2_with (first
                | (go_at_call 9; have hN := GetR.calls rt mb _ R a2 _ (HT.out.below HB.out) HM64.out; rw [← HQ1.out, ← HQ2.out] at hN; (with_reducible refine hN.mono ?_); clear hN; rintro e w_ ⟨rfl, hb⟩; have n6_ := Aside0.mk (Kd.R_below HO.out hb); clear HO; have HO := n6_; clear n6_; have n_ := Aside0.mk (below_step HB.out hb); clear HB; have HB := n_; clear n_; clear hb)
                | (go_at_call 11; have hN := GetY.calls gy R a2 _ (show TbY gy R _ from blk_below HY.out HB.out) HGD.out; rw [← HQ1.out, ← HQ2.out] at hN; (with_reducible refine hN.mono ?_); clear hN; rintro e w_ ⟨rfl, hb⟩; have n6_ := Aside0.mk (Kd.R_below HO.out hb); clear HO; have HO := n6_; clear n6_; have n_ := Aside0.mk (below_step HB.out hb); clear HB; have HB := n_; clear n_; clear hb)
                | (go_at_call 12; have hN := BaseR.calls fxF rt mb _ R a1 a2 n e _ (HG.out.below HB.out) (HT.out.below HB.out) HM64.out HBR.out; (with_reducible refine hN.mono ?_); clear hN; rintro e_ w_ ⟨rfl, hb⟩; have n6_ := Aside0.mk (Kd.R_below HO.out hb); clear HO; have HO := n6_; clear n6_; have n_ := Aside0.mk (below_step HB.out hb); clear HB; have HB := n_; clear n_; clear hb)
                | (go_at_call 14; have hN := AllR.calls rt mb _ R _ (HT.out.below HB.out); (with_reducible refine hN.mono ?_); clear hN; rintro e_ w_ ⟨v_, rfl, ho, hb⟩; obtain ⟨A8, c8, rfl, hl_, hC_⟩ := Kd.R_reads ho; have n6_ := Aside0.mk (Kd.R_below HO.out hb); clear HO; have HO := n6_; clear n6_; have n_ := Aside0.mk (below_step HB.out hb); clear HB; have HB := n_; clear n_; have HC := Aside0.mk hC_; have HCL := Aside0.mk hl_; clear ho hb hl_ hC_)
                | (go_at_call 13; have hN := pledgeref_SameInts.calls fxF A8 c8 (allL R 7) A5 c5 (allL R 7) true _ HC.out HCL.out (Kd.R_reads' HO.out).2.2 (Kd.R_reads' HO.out).2.1 HSM.out; (with_reducible refine hN.mono ?_); clear hN; rintro e_ w_ ⟨rfl, hd⟩; have hb := hd.below; have n6_ := Aside0.mk (Kd.R_below HO.out hb); clear HO; have HO := n6_; clear n6_; have n_ := Aside0.mk (below_step HB.out hb); clear HB; have HB := n_; clear n_; clear hb hd)
                | (go_at_call 8; have hN := pledgesee_Is.calls e 106 true _ (HG.out.below HB.out) HIS.out; (with_reducible refine hN.mono ?_); clear hN; rintro e_ w_ ⟨rfl, hb⟩; have n6_ := Aside0.mk (Kd.R_below HO.out hb); clear HO; have HO := n6_; clear n6_; have n_ := Aside0.mk (below_step HB.out hb); clear HB; have HB := n_; clear n_; clear hb))
              go_ret
              exact ⟨by first | rfl | simp, HEND.out.trans (HB.out.mono (below_size HEND.out))⟩
            | true =>
              obtain ⟨bad, hrb, his⟩ := ht rfl
              have cn1 : (n == n) = true := beq_iff_eq.mpr rfl
              have HIS := Aside0.mk his
              have HRB := Aside0.mk hrb
              clear hf ht hrb his
              go_wp2_with (first
                | (go_at_call 9; have hN := GetR.calls rt mb _ R a2 _ (HT.out.below HB.out) HM64.out; rw [← HQ1.out, ← HQ2.out] at hN; (with_reducible refine hN.mono ?_); clear hN; rintro e w_ ⟨rfl, hb⟩; have n6_ := Aside0.mk (Kd.R_below HO.out hb); clear HO; have HO := n6_; clear n6_; have n_ := Aside0.mk (below_step HB.out hb); clear HB; have HB := n_; clear n_; clear hb)
                | (go_at_call 11; have hN := GetY.calls gy R a2 _ (show TbY gy R _ from blk_below HY.out HB.out) HGD.out; rw [← HQ1.out, ← HQ2.out] at hN; (with_reducible refine hN.mono ?_); clear hN; rintro e w_ ⟨rfl, hb⟩; have n6_ := Aside0.mk (Kd.R_below HO.out hb); clear HO; have HO := n6_; clear n6_; have n_ := Aside0.mk (below_step HB.out hb); clear HB; have HB := n_; clear n_; clear hb)
                | (go_at_call 12; have hN := BaseR.calls fxF rt mb _ R a1 a2 n e _ (HG.out.below HB.out) (HT.out.below HB.out) HM64.out HBR.out; (with_reducible refine hN.mono ?_); clear hN; rintro e_ w_ ⟨rfl, hb⟩; have n6_ := Aside0.mk (Kd.R_below HO.out hb); clear HO; have HO := n6_; clear n6_; have n_ := Aside0.mk (below_step HB.out hb); clear HB; have HB := n_; clear n_; clear hb)
                | (go_at_call 14; have hN := AllR.calls rt mb _ R _ (HT.out.below HB.out); (with_reducible refine hN.mono ?_); clear hN; rintro e_ w_ ⟨v_, rfl, ho, hb⟩; obtain ⟨A8, c8, rfl, hl_, hC_⟩ := Kd.R_reads ho; have n6_ := Aside0.mk (Kd.R_below HO.out hb); clear HO; have HO := n6_; clear n6_; have n_ := Aside0.mk (below_step HB.out hb); clear HB; have HB := n_; clear n_; have HC := Aside0.mk hC_; have HCL := Aside0.mk hl_; clear ho hb hl_ hC_)
                | (go_at_call 13; have hN := pledgeref_SameInts.calls fxF A8 c8 (allL R 7) A5 c5 (allL R 7) true _ HC.out HCL.out (Kd.R_reads' HO.out).2.2 (Kd.R_reads' HO.out).2.1 HSM.out; (with_reducible refine hN.mono ?_); clear hN; rintro e_ w_ ⟨rfl, hd⟩; have hb := hd.below; have n6_ := Aside0.mk (Kd.R_below HO.out hb); clear HO; have HO := n6_; clear n6_; have n_ := Aside0.mk (below_step HB.out hb); clear HB; have HB := n_; clear n_; clear hb hd)
                | (go_at_call 15; have hN := fun W_ => pledgeref1_Base.calls fxF a1 g1 n bad W_ HRB.out; (with_reducible refine (hN _).mono ?_); clear hN; rintro e_ w_ ⟨rfl, hd⟩; have hb := hd.below; have n6_ := Aside0.mk (Kd.R_below HO.out hb); clear HO; have HO := n6_; clear n6_; have n_ := Aside0.mk (below_step HB.out hb); clear HB; have HB := n_; clear n_; clear hb hd)
                | (go_at_call 8; have hN := pledgesee_Is.calls e bad true _ (HG.out.below HB.out) HIS.out; (with_reducible refine hN.mono ?_); clear hN; rintro e_ w_ ⟨rfl, hb⟩; have n6_ := Aside0.mk (Kd.R_below HO.out hb); clear HO; have HO := n6_; clear n6_; have n_ := Aside0.mk (below_step HB.out hb); clear HB; have HB := n_; clear n_; clear hb))
              go_ret
              exact ⟨by first | rfl | simp, HEND.out.trans (HB.out.mono (below_size HEND.out))⟩

/-- The pure statement of pledgelaw13_FxPlays: numbers and lists alone. -/
def pledgelaw13_FxPlays.Pure : Prop := ∀ (l0 : List (S39)) (a1 : Int) (a2 : Int), l0.length * 16 ≤ 140737488351232 → (l0.length ≤ maxLen ∧ ∀ x ∈ l0, (Rng .i64 x.f0 ∧ Rng .i64 x.f1)) → Rng .i64 a1 → Rng .i64 a2 → pledgelaw13_FxPlays.f l0 a1 a2 = some true

end Go.Proofs.YtambndaimehpmaaDoor.EFxPlays
