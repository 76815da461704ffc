/- The functions that the law comes to, as plain functions, and for each a proof that the Go code comes to just these answers. Written by a program of this claim. Conditions: each theorem bears its own. -/
import Derived.Test.YtambndaimehpmaaDoorEFxBasex0
import Derived.Test.YtambndaimehpmaaDoorEFxBasex1
import Derived.Test.YtambndaimehpmaaDoorEFxBasex3
namespace Go.Proofs.YtambndaimehpmaaDoor.EFxBase
open Go.RowKit Go.Proofs.YtambndaimehpmaaDoorW.PrintWords Go.Proofs.YtambndaimehpmaaDoorW.PrintLast Go.Proofs.YtambndaimehpmaaDoorW.PrintMore Go.Proofs.YtambndaimehpmaaDoorW.PrintOpen
attribute [local go_sem] max2_int min2_int max_two min_two max_three min_three max_four min_four   -- for this text's walks alone
set_option linter.unusedVariables false
set_option linter.unusedSimpArgs false

/-! ### pledgelaw13_FxBase: function 3 -/
/-! ### Rates behind a pointer -/
def rg64 (m : Int) : Prop := -9223372036854775808 ≤ m ∧ m ≤ 9223372036854775807
theorem rg_wf {m : Int} (h : rg64 m) : (Lit.int .i64 m).wf = true := by
  simp only [Lit.wf, Bool.and_eq_true, decide_eq_true_eq]
  have e1 : IntKind.i64.min = -9223372036854775808 := by decide
  have e2 : IntKind.i64.max = 9223372036854775807 := by decide
  rw [e1, e2]
  exact h
theorem rateKeyed : Go.Maps.Keyed Tryd.prog 3 := Go.Maps.int_keyed Tryd.underlying3
theorem rk_key (m : Int) (h : rg64 m) : keyOf Tryd.prog 3 (.int .i64 m) = some (.int .i64 m) := Go.Maps.keyOf_int_mk Tryd.underlying3 (rg_wf h)
theorem rk_lit (m : Int) (h : rg64 m) : WideAt.IsKeyLit (.int .i64 m) := rateKeyed.key (rk_key m h)
theorem zeroR (w : World) : (zeroValue 2).run Tryd.prog w = .ok (.int .i64 0) w := by kernel_rfl
theorem tb_alloc {w : World} {g : Nat} {o : Obj} (h : w.heap[g]? = some o) (o' : Obj) : (w.alloc o').heap[g]? = some o := (Below.heap_alloc w o' g (blk_lt h)).trans h
theorem turn_blk {w w' : World} {b g : Nat} {o : Obj} (h : w.mapTurned w' b) (hg : w.heap[g]? = some o) (hne : g ≠ b) : w'.heap[g]? = some o := (h.grown.block g (blk_lt hg) (fun e => hne (Option.some.inj e))).trans hg
theorem room {n : Nat} (h : n < 1000) : n < maxLen := Nat.lt_of_lt_of_le h (by decide)
/-- What a map's datum says of the rates. -/
def ReadsR (D : DataW Unit) (R : Int → Option Int) : Prop := ∀ m, rg64 m → Go.Maps.has D (.int .i64 m) = (R m).isSome ∧ D.atKey (.int .i64 m) (.lit (.int .i64 0)) = .lit (.int .i64 ((R m).getD 0))
/-- Rates in block rt, which are R; their map (if there is one) lies in a block from base on. -/
def TbR (rt base n : Nat) (R : Int → Option Int) (w : World) : Prop :=
  (w.heap[rt]? = some (.cells #[.map none] 26 (0, 0)) ∧ ∀ m, R m = none) ∨
  ∃ (b : Nat) (D : DataW Unit), w.heap[rt]? = some (.cells #[.map (some b)] 26 (0, 0)) ∧ base ≤ b ∧ b ≠ rt ∧ w.ownsMap Tryd.prog 3 (plainElem Tryd.prog 2) b n D ∧ ReadsR D R
theorem TbR.below {rt base n : Nat} {R : Int → Option Int} {w w' : World} (h : TbR rt base n R w) (hb : Below w.heap.size w w') : TbR rt base n R w' := by
  rcases h with ⟨h, hT⟩ | ⟨b, D, h, hl, hne, ⟨es, clock, he, r⟩, hT⟩
  · exact Or.inl ⟨blk_below h hb, hT⟩
  · exact Or.inr ⟨b, D, blk_below h hb, hl, hne, ⟨es, clock, blk_below he hb, r⟩, hT⟩
def updR (R : Int → Option Int) (m v : Int) : Int → Option Int := fun m' => if m' = m then some v else R m'
theorem reads_put {D : DataW Unit} {R : Int → Option Int} (hm : Go.Maps.IsMap D) (hT : ReadsR D R) (m v : Int) (h : rg64 m) : ReadsR (D.put (.int .i64 m) (.lit (.int .i64 v))) (updR R m v) := by
  intro m' h'
  unfold updR
  by_cases e : m' = m
  · subst e
    rw [if_pos rfl]
    exact ⟨Go.Maps.has_put_same hm (rk_lit m' h) _, Go.Maps.atKey_put_same hm (rk_lit m' h) _ _⟩
  · have hne : Lit.int .i64 m' ≠ Lit.int .i64 m := fun c => e (by injection c)
    rw [if_neg e, Go.Maps.has_put_other hne, Go.Maps.atKey_put_other hne]
    exact hT m' h'
theorem reads_nil {R : Int → Option Int} (h : ∀ m, R m = none) : ReadsR (.map []) R := fun m _ => by rw [h m]; exact ⟨rfl, rfl⟩
/-- What Get answers. -/
def getR (R : Int → Option Int) (m : Int) : Int × Bool := if m = 1 then (1000000, true) else ((R m).getD 0, (R m).isSome)
theorem look_R {b n : Nat} {D : DataW Unit} {R : Int → Option Int} {W : World} (hown : W.ownsMap Tryd.prog 3 (plainElem Tryd.prog 2) b n D) (hT : ReadsR D R) (m : Int) (h : rg64 m) :
    (Instr.lookup 24 (.map (some b)) (.int .i64 m) true).run Tryd.prog W = .ok (.tuple #[.int .i64 ((R m).getD 0), .bool (R m).isSome]) W := by
  obtain ⟨v, ps, hrun, hv⟩ := hown.look_ok rateKeyed Tryd.underlying24 (zeroR W) (plainElem_int Tryd.underlying2 (by decide)) (rk_key m h)
  obtain ⟨c, rfl, hc, _⟩ := plainElem_int_inv Tryd.underlying2 hv
  rw [(hT m h).1] at hrun
  rw [(hT m h).2] at hc
  simp at hc
  rw [← hc.1] at hrun
  exact hrun
theorem own_belowR {w W : World} {b n : Nat} {D : DataW Unit} (h : w.ownsMap Tryd.prog 3 (plainElem Tryd.prog 2) b n D) (hb : Below w.heap.size w W) : W.ownsMap Tryd.prog 3 (plainElem Tryd.prog 2) b n D := by
  obtain ⟨es, clock, he, r⟩ := h
  exact ⟨es, clock, blk_below he hb, r⟩
set_option maxHeartbeats 4000000 in
set_option maxRecDepth 100000 in
theorem GetR.calls [Inhabited (Int → Addr)] (rt base n : Nat) (R : Int → Option Int) (m : Int) (w : World) (hT : TbR rt base n R w) (h : rg64 m) :
    Calls Tryd.prog 9 #[.pointer (some ⟨rt, 0, none⟩), .int .i64 m] w fun e w' => e = .returned (.tuple #[.int .i64 (getR R m).1, .bool (getR R m).2]) ∧ Below w.heap.size w w' := by
  have hu2 := Tryd.underlying26
  have hu3 := Tryd.underlying24
  by_cases h1 : m = 1
  · have e : getR R m = (1000000, true) := by unfold getR; rw [if_pos h1]
    rw [e]
    have cb0 : (m == 1) = true := beq_iff_eq.mpr h1
    clear hT h e h1
    go_enter Tryd.func9, Tryd.ntmps9
    go_wp2
    go_ret2
    exact ⟨rfl, Below.refl _ _⟩
  · have e : getR R m = ((R m).getD 0, (R m).isSome) := by unfold getR; rw [if_neg h1]
    rw [e]
    have cb0 : (m == 1) = false := beq_false_of_ne h1
    rcases hT with ⟨hb0, hT⟩ | ⟨b, D, hb0, _, _, ho, hT⟩
    · have hlk := Go.Maps.look_nil (w := w) true rateKeyed Tryd.underlying24 (zeroR w) (rk_key m h)
      rw [if_pos rfl] at hlk
      rw [hT m]
      have k0 := (blk_cell hb0 0).trans (show _ = some (.map none) from rfl)
      clear hb0 hT h e h1
      go_enter Tryd.func9, Tryd.ntmps9
      go_wp2
      go_ret2
      exact ⟨rfl, Below.refl _ _⟩
    · have hlk := look_R ho hT m h
      have k0 := (blk_cell hb0 0).trans (show _ = some (.map (some b)) from rfl)
      clear hb0 ho hT h e h1
      generalize (R m).getD 0 = g0 at hlk ⊢
      generalize (R m).isSome = g1 at hlk ⊢
      go_enter Tryd.func9, Tryd.ntmps9
      go_wp2
      go_ret2
      exact ⟨rfl, Below.refl _ _⟩
/-- What may be set; what Set answers, and leaves. -/
def setOK (m v : Int) : Prop := (2 ≤ m ∧ m ≤ 6) ∧ 1 ≤ v ∧ v ≤ 1000000000
instance (m v : Int) : Decidable (setOK m v) := by unfold setOK; infer_instance
def setE (m v : Int) : Option Int := if setOK m v then none else some 103
def setR (R : Int → Option Int) (m v : Int) : Int → Option Int := if setOK m v then updR R m v else R
theorem rg_ok {m v : Int} (h : setOK m v) : rg64 m ∧ rg64 v := by unfold setOK at h; unfold rg64; omega
set_option maxHeartbeats 4000000 in
set_option maxRecDepth 100000 in
theorem SetR.bad [Inhabited (Int → Addr)] (rt : Nat) (m v : Int) (w : World) (hG : GlobOK w) (h : ¬ setOK m v) :
    Calls Tryd.prog 7 #[.pointer (some ⟨rt, 0, none⟩), .int .i64 m, .int .i64 v] w fun e w' => e = .returned (errW (some 103)) ∧ Below w.heap.size w w' := by
  unfold setOK at h
  have hwg := GlobOK.at hG 103 0 (by simp [globTab])
  clear hG
  by_cases h1 : m ≤ 1
  · have ca1 : decide (m ≤ 1) = true := decide_eq_true (by omega)
    have ca2 : (m ≤ 1) = True := eq_true (by omega)
    clear h
    go_enter Tryd.func7, Tryd.ntmps7
    go_wp2
    go_ret
    exact ⟨by first | rfl | simp [errW_some], Below.refl _ _⟩
  have ca1 : decide (m ≤ 1) = false := decide_eq_false (by omega)
  have ca2 : (m ≤ 1) = False := eq_false (by omega)
  by_cases h2 : m > 6
  · have cb1 : decide (m > 6) = true := decide_eq_true (by omega)
    have cb2 : (m > 6) = True := eq_true (by omega)
    have cb3 : decide (6 < m) = true := decide_eq_true (by omega)
    have cb4 : (6 < m) = True := eq_true (by omega)
    clear h
    go_enter Tryd.func7, Tryd.ntmps7
    go_wp2
    go_ret
    exact ⟨by first | rfl | simp [errW_some], Below.refl _ _⟩
  have cb1 : decide (m > 6) = false := decide_eq_false (by omega)
  have cb2 : (m > 6) = False := eq_false (by omega)
  have cb3 : decide (6 < m) = false := decide_eq_false (by omega)
  have cb4 : (6 < m) = False := eq_false (by omega)
  by_cases h3 : v < 1
  · have cc1 : decide (v < 1) = true := decide_eq_true (by omega)
    have cc2 : (v < 1) = True := eq_true (by omega)
    clear h
    go_enter Tryd.func7, Tryd.ntmps7
    go_wp2
    go_ret
    exact ⟨by first | rfl | simp [errW_some], Below.refl _ _⟩
  have cc1 : decide (v < 1) = false := decide_eq_false (by omega)
  have cc2 : (v < 1) = False := eq_false (by omega)
  have cd1 : decide (v > 1000000000) = true := decide_eq_true (by omega)
  have cd2 : (v > 1000000000) = True := eq_true (by omega)
  have cd3 : decide (1000000000 < v) = true := decide_eq_true (by omega)
  have cd4 : (1000000000 < v) = True := eq_true (by omega)
  clear h
  go_enter Tryd.func7, Tryd.ntmps7
  go_wp2
  go_ret
  exact ⟨by first | rfl | simp [errW_some], Below.refl _ _⟩
theorem nil_sizeR {D : DataW Unit} (h : Go.Maps.IsMap D) (hs : Go.Maps.size D = 0) : D = .map [] := by
  obtain ⟨es, rfl⟩ := h
  cases es with
  | nil => rfl
  | cons a l => simp [Go.Maps.size] at hs
set_option maxHeartbeats 8000000 in
set_option maxRecDepth 1000000 in
theorem SetR.nilcase [Inhabited (Int → Addr)] (rt base n : Nat) (R : Int → Option Int) (m v : Int) (w : World) (hb0 : w.heap[rt]? = some (.cells #[.map none] 26 (0, 0))) (hT : ∀ m, R m = none) (hbt : base ≤ rt) (hbase : base ≤ w.heap.size) (hn : n < 1000) (h : setOK m v) :
    Calls Tryd.prog 7 #[.pointer (some ⟨rt, 0, none⟩), .int .i64 m, .int .i64 v] w fun e w' => e = .returned .nilIface ∧ TbR rt base (n + 1) (updR R m v) w' ∧ Below base w w' := by
  have hu2 := Tryd.underlying26
  have hu3 := Tryd.underlying24
  have HR := Aside0.mk (rg_ok h)
  have HBT := Aside0.mk hbt
  have HBS := Aside0.mk hbase
  have HN := Aside0.mk hn
  have HB := Aside0.mk (Below.refl w.heap.size w)
  have BK := Aside0.mk hb0
  unfold setOK at h
  have ca1 : decide (m ≤ 1) = false := decide_eq_false (by omega)
  have ca2 : (m ≤ 1) = False := eq_false (by omega)
  have cb1 : decide (m > 6) = false := decide_eq_false (by omega)
  have cb2 : (m > 6) = False := eq_false (by omega)
  have cb3 : decide (6 < m) = false := decide_eq_false (by omega)
  have cb4 : (6 < m) = False := eq_false (by omega)
  have cc1 : decide (v < 1) = false := decide_eq_false (by omega)
  have cc2 : (v < 1) = False := eq_false (by omega)
  have cd1 : decide (v > 1000000000) = false := decide_eq_false (by omega)
  have cd2 : (v > 1000000000) = False := eq_false (by omega)
  have cd3 : decide (1000000000 < v) = false := decide_eq_false (by omega)
  have cd4 : (1000000000 < v) = False := eq_false (by omega)
  have HT0 := Aside0.mk (reads_nil hT)
  clear hT
  have k2 := (blk_cell BK.out 0).trans (show _ = some (.map none) from rfl)
  have f2 := blk_frozen BK.out 0
  have kA := (blk_cell (tb_alloc BK.out (.map #[] 0)) 0).trans (show _ = some (.map none) from rfl)
  have fA := blk_frozen (tb_alloc BK.out (.map #[] 0)) 0
  have hne := Nat.ne_of_gt (blk_lt BK.out)
  have HO := Aside0.mk (((World.ownsMap_made (H := Unit) w Tryd.prog 3 (plainElem Tryd.prog 2)).setCell (a := ⟨rt, 0, none⟩) hne (.map (some w.heap.size))).mono (Nat.zero_le n))
  have BK5 := Aside0.mk (blk_put (tb_alloc BK.out (.map #[] 0)) 0 (.map (some w.heap.size)) rfl)
  have HB5 := Aside0.mk ((((HB.out.mono HBS.out).alloc HBS.out (.map #[] 0)).setCell (p := ⟨rt, 0, none⟩) HBT.out (.map (some w.heap.size))))
  have HNB := Aside0.mk hne
  obtain ⟨w7, hrun, hown, hturn⟩ := HO.out.store rateKeyed Tryd.underlying24 (room HN.out) (rk_key m HR.out.1) (plainElem_int Tryd.underlying2 (rg_wf HR.out.2))
  have HRUN7 := Aside0.mk (And.intro hown hturn)
  have HIM := Aside0.mk HO.out.isMap
  clear hb0 hbt hbase hn h hne hown hturn
  have hmm := @run_makeMap Tryd.prog
  go_enter Tryd.func7, Tryd.ntmps7
  go_wp2
  go_ret
  exact ⟨rfl, Or.inr ⟨w.heap.size, _, turn_blk HRUN7.out.2 BK5.out HNB.out.symm, HBS.out, HNB.out, HRUN7.out.1, reads_put HIM.out HT0.out m v HR.out.1⟩, HB5.out.grown HRUN7.out.2.grown (Nat.le_of_lt (Nat.lt_of_le_of_lt HBS.out HO.out.lt)) (fun k e => by cases e; exact HBS.out)⟩
set_option maxHeartbeats 8000000 in
set_option maxRecDepth 1000000 in
theorem SetR.emptycase [Inhabited (Int → Addr)] (rt base n b : Nat) (R : Int → Option Int) (m v : Int) (w : World) (D : DataW Unit) (hb0 : w.heap[rt]? = some (.cells #[.map (some b)] 26 (0, 0))) (hbb : base ≤ b) (hne0 : b ≠ rt) (ho : w.ownsMap Tryd.prog 3 (plainElem Tryd.prog 2) b n D) (hT : ReadsR D R) (hz : Go.Maps.size D = 0) (hbt : base ≤ rt) (hbase : base ≤ w.heap.size) (hn : n < 1000) (h : setOK m v) :
    Calls Tryd.prog 7 #[.pointer (some ⟨rt, 0, none⟩), .int .i64 m, .int .i64 v] w fun e w' => e = .returned .nilIface ∧ TbR rt base (n + 1) (updR R m v) w' ∧ Below base w w' := by
  have hu2 := Tryd.underlying26
  have hu3 := Tryd.underlying24
  have HR := Aside0.mk (rg_ok h)
  have HBT := Aside0.mk hbt
  have HBS := Aside0.mk hbase
  have HN := Aside0.mk hn
  have HB := Aside0.mk (Below.refl w.heap.size w)
  have BK := Aside0.mk hb0
  unfold setOK at h
  have ca1 : decide (m ≤ 1) = false := decide_eq_false (by omega)
  have ca2 : (m ≤ 1) = False := eq_false (by omega)
  have cb1 : decide (m > 6) = false := decide_eq_false (by omega)
  have cb2 : (m > 6) = False := eq_false (by omega)
  have cb3 : decide (6 < m) = false := decide_eq_false (by omega)
  have cb4 : (6 < m) = False := eq_false (by omega)
  have cc1 : decide (v < 1) = false := decide_eq_false (by omega)
  have cc2 : (v < 1) = False := eq_false (by omega)
  have cd1 : decide (v > 1000000000) = false := decide_eq_false (by omega)
  have cd2 : (v > 1000000000) = False := eq_false (by omega)
  have cd3 : decide (1000000000 < v) = false := decide_eq_false (by omega)
  have cd4 : (1000000000 < v) = False := eq_false (by omega)
  have HT0 : Aside0 (ReadsR (.map []) R) := ⟨by rw [← nil_sizeR ho.isMap hz]; exact hT⟩
  have HOB := Aside0.mk ho
  have cz0 : decide ((Go.Maps.size D : Int) = 0) = true := decide_eq_true (by omega)
  have cz1 : ((Go.Maps.size D : Int) = 0) = True := eq_true (by omega)
  have cz2 : (Go.Maps.size D = 0) = True := eq_true hz
  have cz3 : ((Go.Maps.size D : Int) == 0) = true := beq_iff_eq.mpr (by omega)
  clear hT hbb hne0 ho hz
  have k2 := (blk_cell BK.out 0).trans (show _ = some (.map (some b)) from rfl)
  have f2 := blk_frozen BK.out 0
  have kA := (blk_cell (tb_alloc BK.out (.map #[] 0)) 0).trans (show _ = some (.map (some b)) from rfl)
  have fA := blk_frozen (tb_alloc BK.out (.map #[] 0)) 0
  have hne := Nat.ne_of_gt (blk_lt BK.out)
  have HO := Aside0.mk (((World.ownsMap_made (H := Unit) w Tryd.prog 3 (plainElem Tryd.prog 2)).setCell (a := ⟨rt, 0, none⟩) hne (.map (some w.heap.size))).mono (Nat.zero_le n))
  have BK5 := Aside0.mk (blk_put (tb_alloc BK.out (.map #[] 0)) 0 (.map (some w.heap.size)) rfl)
  have HB5 := Aside0.mk ((((HB.out.mono HBS.out).alloc HBS.out (.map #[] 0)).setCell (p := ⟨rt, 0, none⟩) HBT.out (.map (some w.heap.size))))
  have HNB := Aside0.mk hne
  obtain ⟨w7, hrun, hown, hturn⟩ := HO.out.store rateKeyed Tryd.underlying24 (room HN.out) (rk_key m HR.out.1) (plainElem_int Tryd.underlying2 (rg_wf HR.out.2))
  have HRUN7 := Aside0.mk (And.intro hown hturn)
  have HIM := Aside0.mk HO.out.isMap
  clear hb0 hbt hbase hn h hne hown hturn
  have hmm := @run_makeMap Tryd.prog
  go_enter Tryd.func7, Tryd.ntmps7
  go_wp2_with (at_len; refine wpList_len_own _ rfl _ 24 rfl 3 2 Tryd.underlying24 (plainElem Tryd.prog 2) b n D rfl HOB.out ?_)
  go_ret
  exact ⟨rfl, Or.inr ⟨w.heap.size, _, turn_blk HRUN7.out.2 BK5.out HNB.out.symm, HBS.out, HNB.out, HRUN7.out.1, reads_put HIM.out HT0.out m v HR.out.1⟩, HB5.out.grown HRUN7.out.2.grown (Nat.le_of_lt (Nat.lt_of_le_of_lt HBS.out HO.out.lt)) (fun k e => by cases e; exact HBS.out)⟩
set_option maxHeartbeats 8000000 in
set_option maxRecDepth 1000000 in
theorem SetR.fullcase [Inhabited (Int → Addr)] (rt base n b : Nat) (R : Int → Option Int) (m v : Int) (w : World) (D : DataW Unit) (hb0 : w.heap[rt]? = some (.cells #[.map (some b)] 26 (0, 0))) (hbb : base ≤ b) (hne0 : b ≠ rt) (ho : w.ownsMap Tryd.prog 3 (plainElem Tryd.prog 2) b n D) (hT : ReadsR D R) (hz : ¬ Go.Maps.size D = 0) (hbt : base ≤ rt) (hbase : base ≤ w.heap.size) (hn : n < 1000) (h : setOK m v) :
    Calls Tryd.prog 7 #[.pointer (some ⟨rt, 0, none⟩), .int .i64 m, .int .i64 v] w fun e w' => e = .returned .nilIface ∧ TbR rt base (n + 1) (updR R m v) w' ∧ Below base w w' := by
  have hu2 := Tryd.underlying26
  have hu3 := Tryd.underlying24
  have HR := Aside0.mk (rg_ok h)
  have HBT := Aside0.mk hbt
  have HBS := Aside0.mk hbase
  have HN := Aside0.mk hn
  have HB := Aside0.mk (Below.refl w.heap.size w)
  have BK := Aside0.mk hb0
  unfold setOK at h
  have ca1 : decide (m ≤ 1) = false := decide_eq_false (by omega)
  have ca2 : (m ≤ 1) = False := eq_false (by omega)
  have cb1 : decide (m > 6) = false := decide_eq_false (by omega)
  have cb2 : (m > 6) = False := eq_false (by omega)
  have cb3 : decide (6 < m) = false := decide_eq_false (by omega)
  have cb4 : (6 < m) = False := eq_false (by omega)
  have cc1 : decide (v < 1) = false := decide_eq_false (by omega)
  have cc2 : (v < 1) = False := eq_false (by omega)
  have cd1 : decide (v > 1000000000) = false := decide_eq_false (by omega)
  have cd2 : (v > 1000000000) = False := eq_false (by omega)
  have cd3 : decide (1000000000 < v) = false := decide_eq_false (by omega)
  have cd4 : (1000000000 < v) = False := eq_false (by omega)
  have HT0 := Aside0.mk hT
  have HOB := Aside0.mk ho
  have HNB := Aside0.mk hne0
  have HBB := Aside0.mk hbb
  have cz0 : decide ((Go.Maps.size D : Int) = 0) = false := decide_eq_false (by omega)
  have cz1 : ((Go.Maps.size D : Int) = 0) = False := eq_false (by omega)
  have cz2 : (Go.Maps.size D = 0) = False := eq_false hz
  have cz3 : ((Go.Maps.size D : Int) == 0) = false := beq_false_of_ne (by omega)
  clear hT hbb hne0 ho hz
  have k2 := (blk_cell BK.out 0).trans (show _ = some (.map (some b)) from rfl)
  have f2 := blk_frozen BK.out 0
  obtain ⟨w7, hrun, hown, hturn⟩ := HOB.out.store rateKeyed Tryd.underlying24 (room HN.out) (rk_key m HR.out.1) (plainElem_int Tryd.underlying2 (rg_wf HR.out.2))
  have HRUN7 := Aside0.mk (And.intro hown hturn)
  have HIM := Aside0.mk HOB.out.isMap
  clear hb0 hbt hbase hn h hown hturn
  go_enter Tryd.func7, Tryd.ntmps7
  go_wp2_with (at_len; refine wpList_len_own _ rfl _ 24 rfl 3 2 Tryd.underlying24 (plainElem Tryd.prog 2) b n D rfl HOB.out ?_)
  go_ret
  exact ⟨rfl, Or.inr ⟨b, _, turn_blk HRUN7.out.2 BK.out HNB.out.symm, HBB.out, HNB.out, HRUN7.out.1, reads_put HIM.out HT0.out m v HR.out.1⟩, (HB.out.mono HBS.out).grown HRUN7.out.2.grown (Nat.le_of_lt (Nat.lt_of_le_of_lt HBB.out HOB.out.lt)) (fun k e => by cases e; exact HBB.out)⟩
theorem SetR.calls [Inhabited (Int → Addr)] (rt base n : Nat) (R : Int → Option Int) (m v : Int) (w : World) (hG : GlobOK w) (hT : TbR rt base n R w) (hbt : base ≤ rt) (hbase : base ≤ w.heap.size) (hn : n < 1000) :
    Calls Tryd.prog 7 #[.pointer (some ⟨rt, 0, none⟩), .int .i64 m, .int .i64 v] w fun e w' => e = .returned (errW (setE m v)) ∧ TbR rt base (n + 1) (setR R m v) w' ∧ Below base w w' := by
  unfold setE setR
  by_cases h : setOK m v
  · rw [if_pos h, if_pos h, errW_none]
    rcases hT with ⟨h0, hT⟩ | ⟨b, D, h0, hbb, hne, ho, hT⟩
    · exact SetR.nilcase rt base n R m v w h0 hT hbt hbase hn h
    · by_cases hz : Go.Maps.size D = 0
      · exact SetR.emptycase rt base n b R m v w D h0 hbb hne ho hT hz hbt hbase hn h
      · exact SetR.fullcase rt base n b R m v w D h0 hbb hne ho hT hz hbt hbase hn h
  · rw [if_neg h, if_neg h]
    refine (SetR.bad rt m v w hG h).mono ?_
    rintro e w' ⟨rfl, hb⟩
    refine ⟨rfl, ?_, hb.mono hbase⟩
    rcases hT.below hb with ⟨h0, hT⟩ | ⟨b, D, h0, hbb, hne, ho, hT⟩
    · exact Or.inl ⟨h0, hT⟩
    · exact Or.inr ⟨b, D, h0, hbb, hne, ho.mono (Nat.le_succ n), hT⟩
def fxF : Nat := 2000
/-- What Base answers. -/
def baseR (k : Nat) (R : Int → Option Int) (v m : Int) : Option (Int × Option Int) := if (getR R m).2 = true then money_Base.f k v (getR R m).1 else some (0, some 106)
set_option maxHeartbeats 4000000 in
set_option maxRecDepth 100000 in
theorem BaseR.calls [Inhabited (Int → Addr)] (k rt base n : Nat) (R : Int → Option Int) (v m : Int) (r1 : Int) (r2 : Option Int) (w : World) (hG : GlobOK w) (hT : TbR rt base n R w) (hm : rg64 m) (h : baseR k R v m = some (r1, r2)) :
    Calls Tryd.prog 12 #[.pointer (some ⟨rt, 0, none⟩), .int .i64 v, .int .i64 m] w fun e w' => e = .returned (.tuple #[.int .i64 r1, errW r2]) ∧ Below w.heap.size w w' := by
  unfold baseR at h
  have HG := Aside0.mk hG
  have HT := Aside0.mk hT
  have HM := Aside0.mk hm
  have HB := Aside0.mk (Below.refl w.heap.size w)
  obtain ⟨g1, hg1⟩ : ∃ g1, g1 = (getR R m).1 := ⟨_, rfl⟩
  obtain ⟨g2, hg2⟩ : ∃ g2, g2 = (getR R m).2 := ⟨_, rfl⟩
  rw [← hg1, ← hg2] at h
  have HG1 := Aside0.mk hg1
  have HG2 := Aside0.mk hg2
  clear hG hT hm hg1 hg2
  cases g2 with
  | true =>
    rw [if_pos rfl] at h
    have HMB := Aside0.mk h
    clear h
    go_enter Tryd.func12, Tryd.ntmps12
    go_wp2_with (first
      | (go_at_call 9; have hN := GetR.calls rt base n R m _ (HT.out.below HB.out) HM.out; rw [← HG1.out, ← HG2.out] at hN; (with_reducible refine hN.mono ?_); clear hN; rintro e w_ ⟨rfl, hb⟩; have n_ := Aside0.mk (below_step HB.out hb); clear HB; have HB := n_; clear n_; clear hb)
      | (go_at_call 19; have hN := money_Base.calls k v g1 r1 r2 _ (HG.out.below HB.out) HMB.out; (with_reducible refine hN.mono ?_); clear hN; rintro e w_ ⟨rfl, hb⟩; have n_ := Aside0.mk (below_step HB.out hb); clear HB; have HB := n_; clear n_; clear hb))
    go_ret2
    exact ⟨rfl, HB.out⟩
  | false =>
    rw [if_neg (by simp)] at h
    obtain ⟨rfl, rfl⟩ := Prod.mk.inj (Option.some.inj h)
    clear h
    go_enter Tryd.func12, Tryd.ntmps12
    go_wp2_with (go_at_call 9; have hN := GetR.calls rt base n R m _ (HT.out.below HB.out) HM.out; rw [← HG1.out, ← HG2.out] at hN; (with_reducible refine hN.mono ?_); clear hN; rintro e w_ ⟨rfl, hb⟩; have n_ := Aside0.mk (below_step HB.out hb); clear HB; have HB := n_; clear n_; clear hb; have hwg := GlobOK.at (HG.out.below HB.out) 106 1 (by simp [globTab]))
    repeat (go_quiet (first | fail); try go_wp2)
    go_ret2
    exact ⟨by first | rfl | simp [errW_some], by repeat (first | (with_reducible first | exact HB.out | apply below_alloc | apply pw_below_drewN | apply below_drew1) | exact HB.out)⟩
/-- The chapter's examples. -/
def pledgelaw13_first.f : Option Bool := (money_Base.f fxF 5 1000000).bind fun z => if z = (5, none) then some true else none
def noR : Int → Option Int := fun _ => none
set_option maxHeartbeats 4000000 in
set_option maxRecDepth 100000 in
theorem pledgelaw13_first.calls [Inhabited (Int → Addr)] (r : Bool) (w : World) (hG : GlobOK w) (h : pledgelaw13_first.f = some r) :
    Calls Tryd.prog 5 #[] w fun e w' => e = .returned (.bool r) ∧ Below w.heap.size w w' := by
  unfold pledgelaw13_first.f at h
  obtain ⟨z, hz, h⟩ := Option.bind_eq_some_iff.mp h
  by_cases hq : z = (5, none)
  rotate_left
  · rw [if_neg hq] at h; exact absurd h (by simp)
  rw [if_pos hq] at h
  obtain rfl := Option.some.inj h
  subst hq
  have HG := Aside0.mk hG
  have HZ := Aside0.mk (show baseR fxF noR 5 1 = some (5, none) from hz)
  have HB := Aside0.mk (Below.refl w.heap.size w)
  have hu2 := Tryd.underlying26
  clear hG hz h
  go_enter Tryd.func5, Tryd.ntmps5
  go_wp2_with (first
    | ((with_reducible refine gate_dst (N := 1) rfl ?_); refine box_event ?hg (N := 1) ?hd (cs := #[.map none]) (t := 26) ?hr ?_; (case hd => rfl); (case hg => rfl); (case hr => first | (go_simp; done) | (go_simp; rfl)); intro rt hg_ w_ hbox hb; have n_ := Aside0.mk (below_step HB.out hb); clear HB; have HB := n_; clear n_; have BTB := Aside0.mk hbox; clear hb hbox hg_)
    | (go_at_call 12; have hN := BaseR.calls fxF rt 0 0 noR 5 1 5 none _ (HG.out.below HB.out) (Or.inl ⟨BTB.out, fun _ => rfl⟩) (by unfold rg64; omega) HZ.out; simp only [errW_none] at hN; (with_reducible refine hN.mono ?_); clear hN; rintro e w_ ⟨rfl, hb⟩; have n_ := Aside0.mk (below_step HB.out hb); clear HB; have HB := n_; clear n_; clear hb))
  go_ret
  exact ⟨by first | rfl | simp, HB.out⟩
def fnum (a : Int) : Int := wrap64 ((if Int.tmod a 9 < 0 then wrap64 (Int.tmod a 9 + 9) else Int.tmod a 9) - 1)
theorem fnum_rng (a : Int) : -1 ≤ fnum a ∧ fnum a ≤ 7 := by
  have h1 := Int.tmod_lt_of_pos a (show (0 : Int) < 9 by omega)
  have h2 := Int.lt_tmod_of_pos a (show (0 : Int) < 9 by omega)
  unfold fnum
  generalize Int.tmod a 9 = t at h1 h2 ⊢
  split
  · have e : wrap64 (t + 9) = t + 9 := by unfold wrap64; omega
    rw [e]; unfold wrap64; omega
  · unfold wrap64; omega
theorem fnum_f (a : Int) : ∃ z, pledgeworld_Number.f a 9 = some z ∧ wrap64 (z - 1) = fnum a := by
  unfold pledgeworld_Number.f fnum
  rw [if_neg (by omega)]
  split
  · exact ⟨_, rfl, rfl⟩
  · exact ⟨_, rfl, rfl⟩
/-- The law's answer, where its facts hold. -/
def pledgelaw13_FxBase.f (money a b : Int) : Option Bool := (pledgelaw13_first.f).bind fun t => if t = true then (pledgesee_Is.f (some 103) 103).bind (fun s => if s = true then some true else none) else some false
set_option maxHeartbeats 8000000 in
set_option maxRecDepth 1000000 in
theorem FxBase.way [Inhabited (Int → Addr)] (a0 a b m z : Int) (e1 e2 : Option Int) (w : World) (hG : GlobOK w) (h1 : pledgelaw13_first.f = some true) (his : pledgesee_Is.f (some 103) 103 = some true) (hz : pledgeworld_Number.f a0 9 = some z) (hzm : wrap64 (z - 1) = m) (hm : -1 ≤ m ∧ m ≤ 7) :
    Calls Tryd.prog 3 #[.int .i64 a0, .int .i64 a, .int .i64 b] w fun e w' => e = .returned (.bool true) ∧ Below w.heap.size w w' := by
  have hu2 := Tryd.underlying26
  have HG := Aside0.mk hG
  have H1 := Aside0.mk h1
  have HIS := Aside0.mk his
  have HZ := Aside0.mk hz
  have HM := Aside0.mk (show rg64 m by unfold rg64; omega)
  have HB := Aside0.mk (Below.refl w.heap.size w)
  clear hG h1 his hz
  by_cases hqme1 : m = 1
  · obtain ⟨R1, hR1⟩ : ∃ R1, R1 = setR noR m a := ⟨_, rfl⟩
    obtain ⟨R2, hR2⟩ : ∃ R2, R2 = setR R1 m b := ⟨_, rfl⟩
    have HE1 := Aside0.mk (show setE m a = some 103 by unfold setE; rw [if_neg (by unfold setOK; omega)])
    have HE2 := Aside0.mk (show setE m b = some 103 by unfold setE; rw [if_neg (by unfold setOK; omega)])
    have HR1 := Aside0.mk hR1.symm
    have HR2 := Aside0.mk hR2.symm
    have HGM := Aside0.mk (show getR R2 m = (1000000, true) by unfold getR; rw [if_pos (by omega)])
    clear hR1 hR2
    have ga1 : decide (m ≥ 2) = false := decide_eq_false (by omega)
    have ga2 : (m ≥ 2) = False := eq_false (by omega)
    have ga3 : decide (2 ≤ m) = false := decide_eq_false (by omega)
    have ga4 : (2 ≤ m) = False := eq_false (by omega)
    have ge1 : (m == 1) = true := beq_iff_eq.mpr (by omega)
    have ge2 : (m != 1) = false := by rw [bne, ge1, Bool.not_true]
    clear hm hqme1
    have tok := HG
    go_enter Tryd.func3, Tryd.ntmps3
    go_wp2_with (first
      | (go_at_call 5; refine (pledgelaw13_first.calls true _ (HG.out.below HB.out) H1.out).mono ?_; rintro e w_ ⟨rfl, hb⟩; have n_ := Aside0.mk (below_step HB.out hb); clear HB; have HB := n_; clear n_; clear hb)
      | (go_at_call 6; have hN := fun W_ => pledgeworld_Number.calls a0 9 z W_ HZ.out; (with_reducible refine (hN _).mono ?_); clear hN; rintro e w_ ⟨rfl, hd⟩; have hb := hd.below; have n_ := Aside0.mk (below_step HB.out hb); clear HB; have HB := n_; clear n_; clear hb hd)
      | ((with_reducible refine gate_dst (N := 8) rfl ?_); refine box_event ?hg (N := 8) ?hd (cs := #[.map none]) (t := 26) ?hr ?_; (case hd => rfl); (case hg => rfl); (case hr => first | (go_simp; done) | (go_simp; rfl)); intro rt hg_ w_ hbox hb; have HRT := Aside0.mk (show w.heap.size ≤ rt from Nat.le_trans (below_size HB.out) (Nat.le_of_eq hg_.symm)); have n_ := Aside0.mk (below_step HB.out hb); clear HB; have HB := n_; clear n_; have BTB := Aside0.mk hbox; clear hb hbox hg_; have HT := Aside0.mk (show TbR rt w.heap.size 0 noR w_ from Or.inl ⟨BTB.out, fun _ => rfl⟩); clear BTB; have HC0 := tok; clear tok)
      | (go_at_call 7; have tk_ := HC0; clear HC0 tk_; have hN := SetR.calls rt w.heap.size 0 noR m a _ (HG.out.below HB.out) HT.out HRT.out (below_size HB.out) (by omega); rw [HE1.out, HR1.out] at hN; simp only [errW_some] at hN; (with_reducible refine hN.mono ?_); clear hN; rintro e w_ ⟨rfl, ht, hb⟩; have n1_ := Aside0.mk ht; have n2_ := Aside0.mk (HB.out.trans hb); clear HT HB; have HT := n1_; have HB := n2_; clear n1_ n2_ ht hb; have HC1 := HRT)
      | (go_at_call 7; have tk_ := HC1; clear HC1 tk_; have hN := SetR.calls rt w.heap.size 1 R1 m b _ (HG.out.below HB.out) HT.out HRT.out (below_size HB.out) (by omega); rw [HE2.out, HR2.out] at hN; simp only [errW_some] at hN; (with_reducible refine hN.mono ?_); clear hN; rintro e w_ ⟨rfl, ht, hb⟩; have n1_ := Aside0.mk ht; have n2_ := Aside0.mk (HB.out.trans hb); clear HT HB; have HT := n1_; have HB := n2_; clear n1_ n2_ ht hb; have HC2 := HRT)
      | (go_at_call 9; have hN := GetR.calls rt w.heap.size 2 R2 m _ HT.out HM.out; rw [HGM.out] at hN; (with_reducible refine hN.mono ?_); clear hN; rintro e w_ ⟨rfl, hb⟩; have n_ := Aside0.mk (HT.out.below hb); clear HT; have HT := n_; clear n_; have n_ := Aside0.mk (below_step HB.out hb); clear HB; have HB := n_; clear n_; clear hb)
      | (go_at_call 9; have hN := GetR.calls rt w.heap.size 2 R2 1 _ HT.out (by unfold rg64; omega); rw [show getR R2 1 = (1000000, true) from rfl] at hN; (with_reducible refine hN.mono ?_); clear hN; rintro e w_ ⟨rfl, hb⟩; have n_ := Aside0.mk (HT.out.below hb); clear HT; have HT := n_; clear n_; have n_ := Aside0.mk (below_step HB.out hb); clear HB; have HB := n_; clear n_; clear hb)
      | (go_at_call 8; have hN := pledgesee_Is.calls (some 103) 103 true _ (HG.out.below HB.out) HIS.out; simp only [errW_some] at hN; (with_reducible refine hN.mono ?_); clear hN; rintro e w_ ⟨rfl, hb⟩; have n_ := Aside0.mk (HT.out.below hb); clear HT; have HT := n_; clear n_; have n_ := Aside0.mk (below_step HB.out hb); clear HB; have HB := n_; clear n_; clear hb))
    go_ret
    exact ⟨by first | rfl | simp, HB.out⟩
  by_cases hqml2 : m < 2
  · obtain ⟨R1, hR1⟩ : ∃ R1, R1 = setR noR m a := ⟨_, rfl⟩
    obtain ⟨R2, hR2⟩ : ∃ R2, R2 = setR R1 m b := ⟨_, rfl⟩
    have HE1 := Aside0.mk (show setE m a = some 103 by unfold setE; rw [if_neg (by unfold setOK; omega)])
    have HE2 := Aside0.mk (show setE m b = some 103 by unfold setE; rw [if_neg (by unfold setOK; omega)])
    have HR1 := Aside0.mk hR1.symm
    have HR2 := Aside0.mk hR2.symm
    have hs1 : setR noR m a = noR := by unfold setR; rw [if_neg (by unfold setOK; omega)]
    have hs2 : setR R1 m b = R1 := by unfold setR; rw [if_neg (by unfold setOK; omega)]
    have HGM := Aside0.mk (show getR R2 m = (0, false) by unfold getR; rw [if_neg (by omega), hR2, hs2, hR1, hs1]; simp [updR, noR])
    clear hs1 hs2
    clear hR1 hR2
    have ga1 : decide (m ≥ 2) = false := decide_eq_false (by omega)
    have ga2 : (m ≥ 2) = False := eq_false (by omega)
    have ga3 : decide (2 ≤ m) = false := decide_eq_false (by omega)
    have ga4 : (2 ≤ m) = False := eq_false (by omega)
    have ge1 : (m == 1) = false := beq_false_of_ne (by omega)
    have ge2 : (m != 1) = true := by rw [bne, ge1, Bool.not_false]
    clear hm hqme1 hqml2
    have tok := HG
    go_enter Tryd.func3, Tryd.ntmps3
    go_wp2_with (first
      | (go_at_call 5; refine (pledgelaw13_first.calls true _ (HG.out.below HB.out) H1.out).mono ?_; rintro e w_ ⟨rfl, hb⟩; have n_ := Aside0.mk (below_step HB.out hb); clear HB; have HB := n_; clear n_; clear hb)
      | (go_at_call 6; have hN := fun W_ => pledgeworld_Number.calls a0 9 z W_ HZ.out; (with_reducible refine (hN _).mono ?_); clear hN; rintro e w_ ⟨rfl, hd⟩; have hb := hd.below; have n_ := Aside0.mk (below_step HB.out hb); clear HB; have HB := n_; clear n_; clear hb hd)
      | ((with_reducible refine gate_dst (N := 8) rfl ?_); refine box_event ?hg (N := 8) ?hd (cs := #[.map none]) (t := 26) ?hr ?_; (case hd => rfl); (case hg => rfl); (case hr => first | (go_simp; done) | (go_simp; rfl)); intro rt hg_ w_ hbox hb; have HRT := Aside0.mk (show w.heap.size ≤ rt from Nat.le_trans (below_size HB.out) (Nat.le_of_eq hg_.symm)); have n_ := Aside0.mk (below_step HB.out hb); clear HB; have HB := n_; clear n_; have BTB := Aside0.mk hbox; clear hb hbox hg_; have HT := Aside0.mk (show TbR rt w.heap.size 0 noR w_ from Or.inl ⟨BTB.out, fun _ => rfl⟩); clear BTB; have HC0 := tok; clear tok)
      | (go_at_call 7; have tk_ := HC0; clear HC0 tk_; have hN := SetR.calls rt w.heap.size 0 noR m a _ (HG.out.below HB.out) HT.out HRT.out (below_size HB.out) (by omega); rw [HE1.out, HR1.out] at hN; simp only [errW_some] at hN; (with_reducible refine hN.mono ?_); clear hN; rintro e w_ ⟨rfl, ht, hb⟩; have n1_ := Aside0.mk ht; have n2_ := Aside0.mk (HB.out.trans hb); clear HT HB; have HT := n1_; have HB := n2_; clear n1_ n2_ ht hb; have HC1 := HRT)
      | (go_at_call 7; have tk_ := HC1; clear HC1 tk_; have hN := SetR.calls rt w.heap.size 1 R1 m b _ (HG.out.below HB.out) HT.out HRT.out (below_size HB.out) (by omega); rw [HE2.out, HR2.out] at hN; simp only [errW_some] at hN; (with_reducible refine hN.mono ?_); clear hN; rintro e w_ ⟨rfl, ht, hb⟩; have n1_ := Aside0.mk ht; have n2_ := Aside0.mk (HB.out.trans hb); clear HT HB; have HT := n1_; have HB := n2_; clear n1_ n2_ ht hb; have HC2 := HRT)
      | (go_at_call 9; have hN := GetR.calls rt w.heap.size 2 R2 m _ HT.out HM.out; rw [HGM.out] at hN; (with_reducible refine hN.mono ?_); clear hN; rintro e w_ ⟨rfl, hb⟩; have n_ := Aside0.mk (HT.out.below hb); clear HT; have HT := n_; clear n_; have n_ := Aside0.mk (below_step HB.out hb); clear HB; have HB := n_; clear n_; clear hb)
      | (go_at_call 9; have hN := GetR.calls rt w.heap.size 2 R2 1 _ HT.out (by unfold rg64; omega); rw [show getR R2 1 = (1000000, true) from rfl] at hN; (with_reducible refine hN.mono ?_); clear hN; rintro e w_ ⟨rfl, hb⟩; have n_ := Aside0.mk (HT.out.below hb); clear HT; have HT := n_; clear n_; have n_ := Aside0.mk (below_step HB.out hb); clear HB; have HB := n_; clear n_; clear hb)
      | (go_at_call 8; have hN := pledgesee_Is.calls (some 103) 103 true _ (HG.out.below HB.out) HIS.out; simp only [errW_some] at hN; (with_reducible refine hN.mono ?_); clear hN; rintro e w_ ⟨rfl, hb⟩; have n_ := Aside0.mk (HT.out.below hb); clear HT; have HT := n_; clear n_; have n_ := Aside0.mk (below_step HB.out hb); clear HB; have HB := n_; clear n_; clear hb))
    go_ret
    exact ⟨by first | rfl | simp, HB.out⟩
  by_cases hqmg6 : m > 6
  · obtain ⟨R1, hR1⟩ : ∃ R1, R1 = setR noR m a := ⟨_, rfl⟩
    obtain ⟨R2, hR2⟩ : ∃ R2, R2 = setR R1 m b := ⟨_, rfl⟩
    have HE1 := Aside0.mk (show setE m a = some 103 by unfold setE; rw [if_neg (by unfold setOK; omega)])
    have HE2 := Aside0.mk (show setE m b = some 103 by unfold setE; rw [if_neg (by unfold setOK; omega)])
    have HR1 := Aside0.mk hR1.symm
    have HR2 := Aside0.mk hR2.symm
    have hs1 : setR noR m a = noR := by unfold setR; rw [if_neg (by unfold setOK; omega)]
    have hs2 : setR R1 m b = R1 := by unfold setR; rw [if_neg (by unfold setOK; omega)]
    have HGM := Aside0.mk (show getR R2 m = (0, false) by unfold getR; rw [if_neg (by omega), hR2, hs2, hR1, hs1]; simp [updR, noR])
    clear hs1 hs2
    clear hR1 hR2
    have ga1 : decide (m ≥ 2) = true := decide_eq_true (by omega)
    have ga2 : (m ≥ 2) = True := eq_true (by omega)
    have ga3 : decide (2 ≤ m) = true := decide_eq_true (by omega)
    have ga4 : (2 ≤ m) = True := eq_true (by omega)
    have gb1 : decide (m ≤ 6) = false := decide_eq_false (by omega)
    have gb2 : (m ≤ 6) = False := eq_false (by omega)
    have ge1 : (m == 1) = false := beq_false_of_ne (by omega)
    have ge2 : (m != 1) = true := by rw [bne, ge1, Bool.not_false]
    clear hm hqme1 hqml2 hqmg6
    have tok := HG
    go_enter Tryd.func3, Tryd.ntmps3
    go_wp2_with (first
      | (go_at_call 5; refine (pledgelaw13_first.calls true _ (HG.out.below HB.out) H1.out).mono ?_; rintro e w_ ⟨rfl, hb⟩; have n_ := Aside0.mk (below_step HB.out hb); clear HB; have HB := n_; clear n_; clear hb)
      | (go_at_call 6; have hN := fun W_ => pledgeworld_Number.calls a0 9 z W_ HZ.out; (with_reducible refine (hN _).mono ?_); clear hN; rintro e w_ ⟨rfl, hd⟩; have hb := hd.below; have n_ := Aside0.mk (below_step HB.out hb); clear HB; have HB := n_; clear n_; clear hb hd)
      | ((with_reducible refine gate_dst (N := 8) rfl ?_); refine box_event ?hg (N := 8) ?hd (cs := #[.map none]) (t := 26) ?hr ?_; (case hd => rfl); (case hg => rfl); (case hr => first | (go_simp; done) | (go_simp; rfl)); intro rt hg_ w_ hbox hb; have HRT := Aside0.mk (show w.heap.size ≤ rt from Nat.le_trans (below_size HB.out) (Nat.le_of_eq hg_.symm)); have n_ := Aside0.mk (below_step HB.out hb); clear HB; have HB := n_; clear n_; have BTB := Aside0.mk hbox; clear hb hbox hg_; have HT := Aside0.mk (show TbR rt w.heap.size 0 noR w_ from Or.inl ⟨BTB.out, fun _ => rfl⟩); clear BTB; have HC0 := tok; clear tok)
      | (go_at_call 7; have tk_ := HC0; clear HC0 tk_; have hN := SetR.calls rt w.heap.size 0 noR m a _ (HG.out.below HB.out) HT.out HRT.out (below_size HB.out) (by omega); rw [HE1.out, HR1.out] at hN; simp only [errW_some] at hN; (with_reducible refine hN.mono ?_); clear hN; rintro e w_ ⟨rfl, ht, hb⟩; have n1_ := Aside0.mk ht; have n2_ := Aside0.mk (HB.out.trans hb); clear HT HB; have HT := n1_; have HB := n2_; clear n1_ n2_ ht hb; have HC1 := HRT)
      | (go_at_call 7; have tk_ := HC1; clear HC1 tk_; have hN := SetR.calls rt w.heap.size 1 R1 m b _ (HG.out.below HB.out) HT.out HRT.out (below_size HB.out) (by omega); rw [HE2.out, HR2.out] at hN; simp only [errW_some] at hN; (with_reducible refine hN.mono ?_); clear hN; rintro e w_ ⟨rfl, ht, hb⟩; have n1_ := Aside0.mk ht; have n2_ := Aside0.mk (HB.out.trans hb); clear HT HB; have HT := n1_; have HB := n2_; clear n1_ n2_ ht hb; have HC2 := HRT)
      | (go_at_call 9; have hN := GetR.calls rt w.heap.size 2 R2 m _ HT.out HM.out; rw [HGM.out] at hN; (with_reducible refine hN.mono ?_); clear hN; rintro e w_ ⟨rfl, hb⟩; have n_ := Aside0.mk (HT.out.below hb); clear HT; have HT := n_; clear n_; have n_ := Aside0.mk (below_step HB.out hb); clear HB; have HB := n_; clear n_; clear hb)
      | (go_at_call 9; have hN := GetR.calls rt w.heap.size 2 R2 1 _ HT.out (by unfold rg64; omega); rw [show getR R2 1 = (1000000, true) from rfl] at hN; (with_reducible refine hN.mono ?_); clear hN; rintro e w_ ⟨rfl, hb⟩; have n_ := Aside0.mk (HT.out.below hb); clear HT; have HT := n_; clear n_; have n_ := Aside0.mk (below_step HB.out hb); clear HB; have HB := n_; clear n_; clear hb)
      | (go_at_call 8; have hN := pledgesee_Is.calls (some 103) 103 true _ (HG.out.below HB.out) HIS.out; simp only [errW_some] at hN; (with_reducible refine hN.mono ?_); clear hN; rintro e w_ ⟨rfl, hb⟩; have n_ := Aside0.mk (HT.out.below hb); clear HT; have HT := n_; clear n_; have n_ := Aside0.mk (below_step HB.out hb); clear HB; have HB := n_; clear n_; clear hb))
    go_ret
    exact ⟨by first | rfl | simp, HB.out⟩
  by_cases halow : a < 1
  · by_cases hblow : b < 1
    · obtain ⟨R1, hR1⟩ : ∃ R1, R1 = setR noR m a := ⟨_, rfl⟩
      obtain ⟨R2, hR2⟩ : ∃ R2, R2 = setR R1 m b := ⟨_, rfl⟩
      have HE1 := Aside0.mk (show setE m a = some 103 by unfold setE; rw [if_neg (by unfold setOK; omega)])
      have HE2 := Aside0.mk (show setE m b = some 103 by unfold setE; rw [if_neg (by unfold setOK; omega)])
      have HR1 := Aside0.mk hR1.symm
      have HR2 := Aside0.mk hR2.symm
      have hs1 : setR noR m a = noR := by unfold setR; rw [if_neg (by unfold setOK; omega)]
      have hs2 : setR R1 m b = R1 := by unfold setR; rw [if_neg (by unfold setOK; omega)]
      have HGM := Aside0.mk (show getR R2 m = (0, false) by unfold getR; rw [if_neg (by omega), hR2, hs2, hR1, hs1]; simp [updR, noR])
      clear hs1 hs2
      clear hR1 hR2
      have ga1 : decide (m ≥ 2) = true := decide_eq_true (by omega)
      have ga2 : (m ≥ 2) = True := eq_true (by omega)
      have ga3 : decide (2 ≤ m) = true := decide_eq_true (by omega)
      have ga4 : (2 ≤ m) = True := eq_true (by omega)
      have gb1 : decide (m ≤ 6) = true := decide_eq_true (by omega)
      have gb2 : (m ≤ 6) = True := eq_true (by omega)
      have ge1 : (m == 1) = false := beq_false_of_ne (by omega)
      have ge2 : (m != 1) = true := by rw [bne, ge1, Bool.not_false]
      have gaa1 : decide (a ≥ 1) = false := decide_eq_false (by omega)
      have gaa2 : (a ≥ 1) = False := eq_false (by omega)
      have gaa3 : decide (1 ≤ a) = false := decide_eq_false (by omega)
      have gaa4 : (1 ≤ a) = False := eq_false (by omega)
      have gba1 : decide (b ≥ 1) = false := decide_eq_false (by omega)
      have gba2 : (b ≥ 1) = False := eq_false (by omega)
      have gba3 : decide (1 ≤ b) = false := decide_eq_false (by omega)
      have gba4 : (1 ≤ b) = False := eq_false (by omega)
      clear hm hqme1 hqml2 hqmg6 halow hblow
      have tok := HG
      go_enter Tryd.func3, Tryd.ntmps3
      go_wp2_with (first
        | (go_at_call 5; refine (pledgelaw13_first.calls true _ (HG.out.below HB.out) H1.out).mono ?_; rintro e w_ ⟨rfl, hb⟩; have n_ := Aside0.mk (below_step HB.out hb); clear HB; have HB := n_; clear n_; clear hb)
        | (go_at_call 6; have hN := fun W_ => pledgeworld_Number.calls a0 9 z W_ HZ.out; (with_reducible refine (hN _).mono ?_); clear hN; rintro e w_ ⟨rfl, hd⟩; have hb := hd.below; have n_ := Aside0.mk (below_step HB.out hb); clear HB; have HB := n_; clear n_; clear hb hd)
        | ((with_reducible refine gate_dst (N := 8) rfl ?_); refine box_event ?hg (N := 8) ?hd (cs := #[.map none]) (t := 26) ?hr ?_; (case hd => rfl); (case hg => rfl); (case hr => first | (go_simp; done) | (go_simp; rfl)); intro rt hg_ w_ hbox hb; have HRT := Aside0.mk (show w.heap.size ≤ rt from Nat.le_trans (below_size HB.out) (Nat.le_of_eq hg_.symm)); have n_ := Aside0.mk (below_step HB.out hb); clear HB; have HB := n_; clear n_; have BTB := Aside0.mk hbox; clear hb hbox hg_; have HT := Aside0.mk (show TbR rt w.heap.size 0 noR w_ from Or.inl ⟨BTB.out, fun _ => rfl⟩); clear BTB; have HC0 := tok; clear tok)
        | (go_at_call 7; have tk_ := HC0; clear HC0 tk_; have hN := SetR.calls rt w.heap.size 0 noR m a _ (HG.out.below HB.out) HT.out HRT.out (below_size HB.out) (by omega); rw [HE1.out, HR1.out] at hN; simp only [errW_some] at hN; (with_reducible refine hN.mono ?_); clear hN; rintro e w_ ⟨rfl, ht, hb⟩; have n1_ := Aside0.mk ht; have n2_ := Aside0.mk (HB.out.trans hb); clear HT HB; have HT := n1_; have HB := n2_; clear n1_ n2_ ht hb; have HC1 := HRT)
        | (go_at_call 7; have tk_ := HC1; clear HC1 tk_; have hN := SetR.calls rt w.heap.size 1 R1 m b _ (HG.out.below HB.out) HT.out HRT.out (below_size HB.out) (by omega); rw [HE2.out, HR2.out] at hN; simp only [errW_some] at hN; (with_reducible refine hN.mono ?_); clear hN; rintro e w_ ⟨rfl, ht, hb⟩; have n1_ := Aside0.mk ht; have n2_ := Aside0.mk (HB.out.trans hb); clear HT HB; have HT := n1_; have HB := n2_; clear n1_ n2_ ht hb; have HC2 := HRT)
        | (go_at_call 9; have hN := GetR.calls rt w.heap.size 2 R2 m _ HT.out HM.out; rw [HGM.out] at hN; (with_reducible refine hN.mono ?_); clear hN; rintro e w_ ⟨rfl, hb⟩; have n_ := Aside0.mk (HT.out.below hb); clear HT; have HT := n_; clear n_; have n_ := Aside0.mk (below_step HB.out hb); clear HB; have HB := n_; clear n_; clear hb)
        | (go_at_call 9; have hN := GetR.calls rt w.heap.size 2 R2 1 _ HT.out (by unfold rg64; omega); rw [show getR R2 1 = (1000000, true) from rfl] at hN; (with_reducible refine hN.mono ?_); clear hN; rintro e w_ ⟨rfl, hb⟩; have n_ := Aside0.mk (HT.out.below hb); clear HT; have HT := n_; clear n_; have n_ := Aside0.mk (below_step HB.out hb); clear HB; have HB := n_; clear n_; clear hb)
        | (go_at_call 8; have hN := pledgesee_Is.calls (some 103) 103 true _ (HG.out.below HB.out) HIS.out; simp only [errW_some] at hN; (with_reducible refine hN.mono ?_); clear hN; rintro e w_ ⟨rfl, hb⟩; have n_ := Aside0.mk (HT.out.below hb); clear HT; have HT := n_; clear n_; have n_ := Aside0.mk (below_step HB.out hb); clear HB; have HB := n_; clear n_; clear hb))
      go_ret
      exact ⟨by first | rfl | simp, HB.out⟩
    by_cases hbhigh : b > 1000000000
    · obtain ⟨R1, hR1⟩ : ∃ R1, R1 = setR noR m a := ⟨_, rfl⟩
      obtain ⟨R2, hR2⟩ : ∃ R2, R2 = setR R1 m b := ⟨_, rfl⟩
      have HE1 := Aside0.mk (show setE m a = some 103 by unfold setE; rw [if_neg (by unfold setOK; omega)])
      have HE2 := Aside0.mk (show setE m b = some 103 by unfold setE; rw [if_neg (by unfold setOK; omega)])
      have HR1 := Aside0.mk hR1.symm
      have HR2 := Aside0.mk hR2.symm
      have hs1 : setR noR m a = noR := by unfold setR; rw [if_neg (by unfold setOK; omega)]
      have hs2 : setR R1 m b = R1 := by unfold setR; rw [if_neg (by unfold setOK; omega)]
      have HGM := Aside0.mk (show getR R2 m = (0, false) by unfold getR; rw [if_neg (by omega), hR2, hs2, hR1, hs1]; simp [updR, noR])
      clear hs1 hs2
      clear hR1 hR2
      have ga1 : decide (m ≥ 2) = true := decide_eq_true (by omega)
      have ga2 : (m ≥ 2) = True := eq_true (by omega)
      have ga3 : decide (2 ≤ m) = true := decide_eq_true (by omega)
      have ga4 : (2 ≤ m) = True := eq_true (by omega)
      have gb1 : decide (m ≤ 6) = true := decide_eq_true (by omega)
      have gb2 : (m ≤ 6) = True := eq_true (by omega)
      have ge1 : (m == 1) = false := beq_false_of_ne (by omega)
      have ge2 : (m != 1) = true := by rw [bne, ge1, Bool.not_false]
      have gaa1 : decide (a ≥ 1) = false := decide_eq_false (by omega)
      have gaa2 : (a ≥ 1) = False := eq_false (by omega)
      have gaa3 : decide (1 ≤ a) = false := decide_eq_false (by omega)
      have gaa4 : (1 ≤ a) = False := eq_false (by omega)
      have gba1 : decide (b ≥ 1) = true := decide_eq_true (by omega)
      have gba2 : (b ≥ 1) = True := eq_true (by omega)
      have gba3 : decide (1 ≤ b) = true := decide_eq_true (by omega)
      have gba4 : (1 ≤ b) = True := eq_true (by omega)
      have gbb1 : decide (b ≤ 1000000000) = false := decide_eq_false (by omega)
      have gbb2 : (b ≤ 1000000000) = False := eq_false (by omega)
      clear hm hqme1 hqml2 hqmg6 halow hblow hbhigh
      have tok := HG
      go_enter Tryd.func3, Tryd.ntmps3
      go_wp2_with (first
        | (go_at_call 5; refine (pledgelaw13_first.calls true _ (HG.out.below HB.out) H1.out).mono ?_; rintro e w_ ⟨rfl, hb⟩; have n_ := Aside0.mk (below_step HB.out hb); clear HB; have HB := n_; clear n_; clear hb)
        | (go_at_call 6; have hN := fun W_ => pledgeworld_Number.calls a0 9 z W_ HZ.out; (with_reducible refine (hN _).mono ?_); clear hN; rintro e w_ ⟨rfl, hd⟩; have hb := hd.below; have n_ := Aside0.mk (below_step HB.out hb); clear HB; have HB := n_; clear n_; clear hb hd)
        | ((with_reducible refine gate_dst (N := 8) rfl ?_); refine box_event ?hg (N := 8) ?hd (cs := #[.map none]) (t := 26) ?hr ?_; (case hd => rfl); (case hg => rfl); (case hr => first | (go_simp; done) | (go_simp; rfl)); intro rt hg_ w_ hbox hb; have HRT := Aside0.mk (show w.heap.size ≤ rt from Nat.le_trans (below_size HB.out) (Nat.le_of_eq hg_.symm)); have n_ := Aside0.mk (below_step HB.out hb); clear HB; have HB := n_; clear n_; have BTB := Aside0.mk hbox; clear hb hbox hg_; have HT := Aside0.mk (show TbR rt w.heap.size 0 noR w_ from Or.inl ⟨BTB.out, fun _ => rfl⟩); clear BTB; have HC0 := tok; clear tok)
        | (go_at_call 7; have tk_ := HC0; clear HC0 tk_; have hN := SetR.calls rt w.heap.size 0 noR m a _ (HG.out.below HB.out) HT.out HRT.out (below_size HB.out) (by omega); rw [HE1.out, HR1.out] at hN; simp only [errW_some] at hN; (with_reducible refine hN.mono ?_); clear hN; rintro e w_ ⟨rfl, ht, hb⟩; have n1_ := Aside0.mk ht; have n2_ := Aside0.mk (HB.out.trans hb); clear HT HB; have HT := n1_; have HB := n2_; clear n1_ n2_ ht hb; have HC1 := HRT)
        | (go_at_call 7; have tk_ := HC1; clear HC1 tk_; have hN := SetR.calls rt w.heap.size 1 R1 m b _ (HG.out.below HB.out) HT.out HRT.out (below_size HB.out) (by omega); rw [HE2.out, HR2.out] at hN; simp only [errW_some] at hN; (with_reducible refine hN.mono ?_); clear hN; rintro e w_ ⟨rfl, ht, hb⟩; have n1_ := Aside0.mk ht; have n2_ := Aside0.mk (HB.out.trans hb); clear HT HB; have HT := n1_; have HB := n2_; clear n1_ n2_ ht hb; have HC2 := HRT)
        | (go_at_call 9; have hN := GetR.calls rt w.heap.size 2 R2 m _ HT.out HM.out; rw [HGM.out] at hN; (with_reducible refine hN.mono ?_); clear hN; rintro e w_ ⟨rfl, hb⟩; have n_ := Aside0.mk (HT.out.below hb); clear HT; have HT := n_; clear n_; have n_ := Aside0.mk (below_step HB.out hb); clear HB; have HB := n_; clear n_; clear hb)
        | (go_at_call 9; have hN := GetR.calls rt w.heap.size 2 R2 1 _ HT.out (by unfold rg64; omega); rw [show getR R2 1 = (1000000, true) from rfl] at hN; (with_reducible refine hN.mono ?_); clear hN; rintro e w_ ⟨rfl, hb⟩; have n_ := Aside0.mk (HT.out.below hb); clear HT; have HT := n_; clear n_; have n_ := Aside0.mk (below_step HB.out hb); clear HB; have HB := n_; clear n_; clear hb)
        | (go_at_call 8; have hN := pledgesee_Is.calls (some 103) 103 true _ (HG.out.below HB.out) HIS.out; simp only [errW_some] at hN; (with_reducible refine hN.mono ?_); clear hN; rintro e w_ ⟨rfl, hb⟩; have n_ := Aside0.mk (HT.out.below hb); clear HT; have HT := n_; clear n_; have n_ := Aside0.mk (below_step HB.out hb); clear HB; have HB := n_; clear n_; clear hb))
      go_ret
      exact ⟨by first | rfl | simp, HB.out⟩
    obtain ⟨R1, hR1⟩ : ∃ R1, R1 = setR noR m a := ⟨_, rfl⟩
    obtain ⟨R2, hR2⟩ : ∃ R2, R2 = setR R1 m b := ⟨_, rfl⟩
    have HE1 := Aside0.mk (show setE m a = some 103 by unfold setE; rw [if_neg (by unfold setOK; omega)])
    have HE2 := Aside0.mk (show setE m b = none by unfold setE; rw [if_pos (by unfold setOK; omega)])
    have HR1 := Aside0.mk hR1.symm
    have HR2 := Aside0.mk hR2.symm
    have hs1 : setR noR m a = noR := by unfold setR; rw [if_neg (by unfold setOK; omega)]
    have hs2 : setR R1 m b = updR R1 m b := by unfold setR; rw [if_pos (by unfold setOK; omega)]
    have HGM := Aside0.mk (show getR R2 m = (b, true) by unfold getR; rw [if_neg (by omega), hR2, hs2]; simp [updR, noR])
    clear hs1 hs2
    clear hR1 hR2
    have ga1 : decide (m ≥ 2) = true := decide_eq_true (by omega)
    have ga2 : (m ≥ 2) = True := eq_true (by omega)
    have ga3 : decide (2 ≤ m) = true := decide_eq_true (by omega)
    have ga4 : (2 ≤ m) = True := eq_true (by omega)
    have gb1 : decide (m ≤ 6) = true := decide_eq_true (by omega)
    have gb2 : (m ≤ 6) = True := eq_true (by omega)
    have ge1 : (m == 1) = false := beq_false_of_ne (by omega)
    have ge2 : (m != 1) = true := by rw [bne, ge1, Bool.not_false]
    have gaa1 : decide (a ≥ 1) = false := decide_eq_false (by omega)
    have gaa2 : (a ≥ 1) = False := eq_false (by omega)
    have gaa3 : decide (1 ≤ a) = false := decide_eq_false (by omega)
    have gaa4 : (1 ≤ a) = False := eq_false (by omega)
    have gba1 : decide (b ≥ 1) = true := decide_eq_true (by omega)
    have gba2 : (b ≥ 1) = True := eq_true (by omega)
    have gba3 : decide (1 ≤ b) = true := decide_eq_true (by omega)
    have gba4 : (1 ≤ b) = True := eq_true (by omega)
    have gbb1 : decide (b ≤ 1000000000) = true := decide_eq_true (by omega)
    have gbb2 : (b ≤ 1000000000) = True := eq_true (by omega)
    have gw1 : (b == 0) = false := beq_false_of_ne (by omega)
    have gw2 : (b != 0) = true := by rw [bne, gw1, Bool.not_false]
    have gx1 : (b == b) = true := beq_iff_eq.mpr rfl
    clear hm hqme1 hqml2 hqmg6 halow hblow hbhigh
    have tok := HG
    go_enter Tryd.func3, Tryd.ntmps3
    go_wp2_with (first
      | (go_at_call 5; refine (pledgelaw13_first.calls true _ (HG.out.below HB.out) H1.out).mono ?_; rintro e w_ ⟨rfl, hb⟩; have n_ := Aside0.mk (below_step HB.out hb); clear HB; have HB := n_; clear n_; clear hb)
      | (go_at_call 6; have hN := fun W_ => pledgeworld_Number.calls a0 9 z W_ HZ.out; (with_reducible refine (hN _).mono ?_); clear hN; rintro e w_ ⟨rfl, hd⟩; have hb := hd.below; have n_ := Aside0.mk (below_step HB.out hb); clear HB; have HB := n_; clear n_; clear hb hd)
      | ((with_reducible refine gate_dst (N := 8) rfl ?_); refine box_event ?hg (N := 8) ?hd (cs := #[.map none]) (t := 26) ?hr ?_; (case hd => rfl); (case hg => rfl); (case hr => first | (go_simp; done) | (go_simp; rfl)); intro rt hg_ w_ hbox hb; have HRT := Aside0.mk (show w.heap.size ≤ rt from Nat.le_trans (below_size HB.out) (Nat.le_of_eq hg_.symm)); have n_ := Aside0.mk (below_step HB.out hb); clear HB; have HB := n_; clear n_; have BTB := Aside0.mk hbox; clear hb hbox hg_; have HT := Aside0.mk (show TbR rt w.heap.size 0 noR w_ from Or.inl ⟨BTB.out, fun _ => rfl⟩); clear BTB; have HC0 := tok; clear tok)
      | (go_at_call 7; have tk_ := HC0; clear HC0 tk_; have hN := SetR.calls rt w.heap.size 0 noR m a _ (HG.out.below HB.out) HT.out HRT.out (below_size HB.out) (by omega); rw [HE1.out, HR1.out] at hN; simp only [errW_some] at hN; (with_reducible refine hN.mono ?_); clear hN; rintro e w_ ⟨rfl, ht, hb⟩; have n1_ := Aside0.mk ht; have n2_ := Aside0.mk (HB.out.trans hb); clear HT HB; have HT := n1_; have HB := n2_; clear n1_ n2_ ht hb; have HC1 := HRT)
      | (go_at_call 7; have tk_ := HC1; clear HC1 tk_; have hN := SetR.calls rt w.heap.size 1 R1 m b _ (HG.out.below HB.out) HT.out HRT.out (below_size HB.out) (by omega); rw [HE2.out, HR2.out] at hN; simp only [errW_none] at hN; (with_reducible refine hN.mono ?_); clear hN; rintro e w_ ⟨rfl, ht, hb⟩; have n1_ := Aside0.mk ht; have n2_ := Aside0.mk (HB.out.trans hb); clear HT HB; have HT := n1_; have HB := n2_; clear n1_ n2_ ht hb; have HC2 := HRT)
      | (go_at_call 9; have hN := GetR.calls rt w.heap.size 2 R2 m _ HT.out HM.out; rw [HGM.out] at hN; (with_reducible refine hN.mono ?_); clear hN; rintro e w_ ⟨rfl, hb⟩; have n_ := Aside0.mk (HT.out.below hb); clear HT; have HT := n_; clear n_; have n_ := Aside0.mk (below_step HB.out hb); clear HB; have HB := n_; clear n_; clear hb)
      | (go_at_call 9; have hN := GetR.calls rt w.heap.size 2 R2 1 _ HT.out (by unfold rg64; omega); rw [show getR R2 1 = (1000000, true) from rfl] at hN; (with_reducible refine hN.mono ?_); clear hN; rintro e w_ ⟨rfl, hb⟩; have n_ := Aside0.mk (HT.out.below hb); clear HT; have HT := n_; clear n_; have n_ := Aside0.mk (below_step HB.out hb); clear HB; have HB := n_; clear n_; clear hb)
      | (go_at_call 8; have hN := pledgesee_Is.calls (some 103) 103 true _ (HG.out.below HB.out) HIS.out; simp only [errW_some] at hN; (with_reducible refine hN.mono ?_); clear hN; rintro e w_ ⟨rfl, hb⟩; have n_ := Aside0.mk (HT.out.below hb); clear HT; have HT := n_; clear n_; have n_ := Aside0.mk (below_step HB.out hb); clear HB; have HB := n_; clear n_; clear hb))
    go_ret
    exact ⟨by first | rfl | simp, HB.out⟩
  by_cases hahigh : a > 1000000000
  · by_cases hblow : b < 1
    · obtain ⟨R1, hR1⟩ : ∃ R1, R1 = setR noR m a := ⟨_, rfl⟩
      obtain ⟨R2, hR2⟩ : ∃ R2, R2 = setR R1 m b := ⟨_, rfl⟩
      have HE1 := Aside0.mk (show setE m a = some 103 by unfold setE; rw [if_neg (by unfold setOK; omega)])
      have HE2 := Aside0.mk (show setE m b = some 103 by unfold setE; rw [if_neg (by unfold setOK; omega)])
      have HR1 := Aside0.mk hR1.symm
      have HR2 := Aside0.mk hR2.symm
      have hs1 : setR noR m a = noR := by unfold setR; rw [if_neg (by unfold setOK; omega)]
      have hs2 : setR R1 m b = R1 := by unfold setR; rw [if_neg (by unfold setOK; omega)]
      have HGM := Aside0.mk (show getR R2 m = (0, false) by unfold getR; rw [if_neg (by omega), hR2, hs2, hR1, hs1]; simp [updR, noR])
      clear hs1 hs2
      clear hR1 hR2
      have ga1 : decide (m ≥ 2) = true := decide_eq_true (by omega)
      have ga2 : (m ≥ 2) = True := eq_true (by omega)
      have ga3 : decide (2 ≤ m) = true := decide_eq_true (by omega)
      have ga4 : (2 ≤ m) = True := eq_true (by omega)
      have gb1 : decide (m ≤ 6) = true := decide_eq_true (by omega)
      have gb2 : (m ≤ 6) = True := eq_true (by omega)
      have ge1 : (m == 1) = false := beq_false_of_ne (by omega)
      have ge2 : (m != 1) = true := by rw [bne, ge1, Bool.not_false]
      have gaa1 : decide (a ≥ 1) = true := decide_eq_true (by omega)
      have gaa2 : (a ≥ 1) = True := eq_true (by omega)
      have gaa3 : decide (1 ≤ a) = true := decide_eq_true (by omega)
      have gaa4 : (1 ≤ a) = True := eq_true (by omega)
      have gab1 : decide (a ≤ 1000000000) = false := decide_eq_false (by omega)
      have gab2 : (a ≤ 1000000000) = False := eq_false (by omega)
      have gba1 : decide (b ≥ 1) = false := decide_eq_false (by omega)
      have gba2 : (b ≥ 1) = False := eq_false (by omega)
      have gba3 : decide (1 ≤ b) = false := decide_eq_false (by omega)
      have gba4 : (1 ≤ b) = False := eq_false (by omega)
      clear hm hqme1 hqml2 hqmg6 halow hahigh hblow
      have tok := HG
      go_enter Tryd.func3, Tryd.ntmps3
      go_wp2_with (first
        | (go_at_call 5; refine (pledgelaw13_first.calls true _ (HG.out.below HB.out) H1.out).mono ?_; rintro e w_ ⟨rfl, hb⟩; have n_ := Aside0.mk (below_step HB.out hb); clear HB; have HB := n_; clear n_; clear hb)
        | (go_at_call 6; have hN := fun W_ => pledgeworld_Number.calls a0 9 z W_ HZ.out; (with_reducible refine (hN _).mono ?_); clear hN; rintro e w_ ⟨rfl, hd⟩; have hb := hd.below; have n_ := Aside0.mk (below_step HB.out hb); clear HB; have HB := n_; clear n_; clear hb hd)
        | ((with_reducible refine gate_dst (N := 8) rfl ?_); refine box_event ?hg (N := 8) ?hd (cs := #[.map none]) (t := 26) ?hr ?_; (case hd => rfl); (case hg => rfl); (case hr => first | (go_simp; done) | (go_simp; rfl)); intro rt hg_ w_ hbox hb; have HRT := Aside0.mk (show w.heap.size ≤ rt from Nat.le_trans (below_size HB.out) (Nat.le_of_eq hg_.symm)); have n_ := Aside0.mk (below_step HB.out hb); clear HB; have HB := n_; clear n_; have BTB := Aside0.mk hbox; clear hb hbox hg_; have HT := Aside0.mk (show TbR rt w.heap.size 0 noR w_ from Or.inl ⟨BTB.out, fun _ => rfl⟩); clear BTB; have HC0 := tok; clear tok)
        | (go_at_call 7; have tk_ := HC0; clear HC0 tk_; have hN := SetR.calls rt w.heap.size 0 noR m a _ (HG.out.below HB.out) HT.out HRT.out (below_size HB.out) (by omega); rw [HE1.out, HR1.out] at hN; simp only [errW_some] at hN; (with_reducible refine hN.mono ?_); clear hN; rintro e w_ ⟨rfl, ht, hb⟩; have n1_ := Aside0.mk ht; have n2_ := Aside0.mk (HB.out.trans hb); clear HT HB; have HT := n1_; have HB := n2_; clear n1_ n2_ ht hb; have HC1 := HRT)
        | (go_at_call 7; have tk_ := HC1; clear HC1 tk_; have hN := SetR.calls rt w.heap.size 1 R1 m b _ (HG.out.below HB.out) HT.out HRT.out (below_size HB.out) (by omega); rw [HE2.out, HR2.out] at hN; simp only [errW_some] at hN; (with_reducible refine hN.mono ?_); clear hN; rintro e w_ ⟨rfl, ht, hb⟩; have n1_ := Aside0.mk ht; have n2_ := Aside0.mk (HB.out.trans hb); clear HT HB; have HT := n1_; have HB := n2_; clear n1_ n2_ ht hb; have HC2 := HRT)
        | (go_at_call 9; have hN := GetR.calls rt w.heap.size 2 R2 m _ HT.out HM.out; rw [HGM.out] at hN; (with_reducible refine hN.mono ?_); clear hN; rintro e w_ ⟨rfl, hb⟩; have n_ := Aside0.mk (HT.out.below hb); clear HT; have HT := n_; clear n_; have n_ := Aside0.mk (below_step HB.out hb); clear HB; have HB := n_; clear n_; clear hb)
        | (go_at_call 9; have hN := GetR.calls rt w.heap.size 2 R2 1 _ HT.out (by unfold rg64; omega); rw [show getR R2 1 = (1000000, true) from rfl] at hN; (with_reducible refine hN.mono ?_); clear hN; rintro e w_ ⟨rfl, hb⟩; have n_ := Aside0.mk (HT.out.below hb); clear HT; have HT := n_; clear n_; have n_ := Aside0.mk (below_step HB.out hb); clear HB; have HB := n_; clear n_; clear hb)
        | (go_at_call 8; have hN := pledgesee_Is.calls (some 103) 103 true _ (HG.out.below HB.out) HIS.out; simp only [errW_some] at hN; (with_reducible refine hN.mono ?_); clear hN; rintro e w_ ⟨rfl, hb⟩; have n_ := Aside0.mk (HT.out.below hb); clear HT; have HT := n_; clear n_; have n_ := Aside0.mk (below_step HB.out hb); clear HB; have HB := n_; clear n_; clear hb))
      go_ret
      exact ⟨by first | rfl | simp, HB.out⟩
    by_cases hbhigh : b > 1000000000
    · obtain ⟨R1, hR1⟩ : ∃ R1, R1 = setR noR m a := ⟨_, rfl⟩
      obtain ⟨R2, hR2⟩ : ∃ R2, R2 = setR R1 m b := ⟨_, rfl⟩
      have HE1 := Aside0.mk (show setE m a = some 103 by unfold setE; rw [if_neg (by unfold setOK; omega)])
      have HE2 := Aside0.mk (show setE m b = some 103 by unfold setE; rw [if_neg (by unfold setOK; omega)])
      have HR1 := Aside0.mk hR1.symm
      have HR2 := Aside0.mk hR2.symm
      have hs1 : setR noR m a = noR := by unfold setR; rw [if_neg (by unfold setOK; omega)]
      have hs2 : setR R1 m b = R1 := by unfold setR; rw [if_neg (by unfold setOK; omega)]
      have HGM := Aside0.mk (show getR R2 m = (0, false) by unfold getR; rw [if_neg (by omega), hR2, hs2, hR1, hs1]; simp [updR, noR])
      clear hs1 hs2
      clear hR1 hR2
      have ga1 : decide (m ≥ 2) = true := decide_eq_true (by omega)
      have ga2 : (m ≥ 2) = True := eq_true (by omega)
      have ga3 : decide (2 ≤ m) = true := decide_eq_true (by omega)
      have ga4 : (2 ≤ m) = True := eq_true (by omega)
      have gb1 : decide (m ≤ 6) = true := decide_eq_true (by omega)
      have gb2 : (m ≤ 6) = True := eq_true (by omega)
      have ge1 : (m == 1) = false := beq_false_of_ne (by omega)
      have ge2 : (m != 1) = true := by rw [bne, ge1, Bool.not_false]
      have gaa1 : decide (a ≥ 1) = true := decide_eq_true (by omega)
      have gaa2 : (a ≥ 1) = True := eq_true (by omega)
      have gaa3 : decide (1 ≤ a) = true := decide_eq_true (by omega)
      have gaa4 : (1 ≤ a) = True := eq_true (by omega)
      have gab1 : decide (a ≤ 1000000000) = false := decide_eq_false (by omega)
      have gab2 : (a ≤ 1000000000) = False := eq_false (by omega)
      have gba1 : decide (b ≥ 1) = true := decide_eq_true (by omega)
      have gba2 : (b ≥ 1) = True := eq_true (by omega)
      have gba3 : decide (1 ≤ b) = true := decide_eq_true (by omega)
      have gba4 : (1 ≤ b) = True := eq_true (by omega)
      have gbb1 : decide (b ≤ 1000000000) = false := decide_eq_false (by omega)
      have gbb2 : (b ≤ 1000000000) = False := eq_false (by omega)
      clear hm hqme1 hqml2 hqmg6 halow hahigh hblow hbhigh
      have tok := HG
      go_enter Tryd.func3, Tryd.ntmps3
      go_wp2_with (first
        | (go_at_call 5; refine (pledgelaw13_first.calls true _ (HG.out.below HB.out) H1.out).mono ?_; rintro e w_ ⟨rfl, hb⟩; have n_ := Aside0.mk (below_step HB.out hb); clear HB; have HB := n_; clear n_; clear hb)
        | (go_at_call 6; have hN := fun W_ => pledgeworld_Number.calls a0 9 z W_ HZ.out; (with_reducible refine (hN _).mono ?_); clear hN; rintro e w_ ⟨rfl, hd⟩; have hb := hd.below; have n_ := Aside0.mk (below_step HB.out hb); clear HB; have HB := n_; clear n_; clear hb hd)
        | ((with_reducible refine gate_dst (N := 8) rfl ?_); refine box_event ?hg (N := 8) ?hd (cs := #[.map none]) (t := 26) ?hr ?_; (case hd => rfl); (case hg => rfl); (case hr => first | (go_simp; done) | (go_simp; rfl)); intro rt hg_ w_ hbox hb; have HRT := Aside0.mk (show w.heap.size ≤ rt from Nat.le_trans (below_size HB.out) (Nat.le_of_eq hg_.symm)); have n_ := Aside0.mk (below_step HB.out hb); clear HB; have HB := n_; clear n_; have BTB := Aside0.mk hbox; clear hb hbox hg_; have HT := Aside0.mk (show TbR rt w.heap.size 0 noR w_ from Or.inl ⟨BTB.out, fun _ => rfl⟩); clear BTB; have HC0 := tok; clear tok)
        | (go_at_call 7; have tk_ := HC0; clear HC0 tk_; have hN := SetR.calls rt w.heap.size 0 noR m a _ (HG.out.below HB.out) HT.out HRT.out (below_size HB.out) (by omega); rw [HE1.out, HR1.out] at hN; simp only [errW_some] at hN; (with_reducible refine hN.mono ?_); clear hN; rintro e w_ ⟨rfl, ht, hb⟩; have n1_ := Aside0.mk ht; have n2_ := Aside0.mk (HB.out.trans hb); clear HT HB; have HT := n1_; have HB := n2_; clear n1_ n2_ ht hb; have HC1 := HRT)
        | (go_at_call 7; have tk_ := HC1; clear HC1 tk_; have hN := SetR.calls rt w.heap.size 1 R1 m b _ (HG.out.below HB.out) HT.out HRT.out (below_size HB.out) (by omega); rw [HE2.out, HR2.out] at hN; simp only [errW_some] at hN; (with_reducible refine hN.mono ?_); clear hN; rintro e w_ ⟨rfl, ht, hb⟩; have n1_ := Aside0.mk ht; have n2_ := Aside0.mk (HB.out.trans hb); clear HT HB; have HT := n1_; have HB := n2_; clear n1_ n2_ ht hb; have HC2 := HRT)
        | (go_at_call 9; have hN := GetR.calls rt w.heap.size 2 R2 m _ HT.out HM.out; rw [HGM.out] at hN; (with_reducible refine hN.mono ?_); clear hN; rintro e w_ ⟨rfl, hb⟩; have n_ := Aside0.mk (HT.out.below hb); clear HT; have HT := n_; clear n_; have n_ := Aside0.mk (below_step HB.out hb); clear HB; have HB := n_; clear n_; clear hb)
        | (go_at_call 9; have hN := GetR.calls rt w.heap.size 2 R2 1 _ HT.out (by unfold rg64; omega); rw [show getR R2 1 = (1000000, true) from rfl] at hN; (with_reducible refine hN.mono ?_); clear hN; rintro e w_ ⟨rfl, hb⟩; have n_ := Aside0.mk (HT.out.below hb); clear HT; have HT := n_; clear n_; have n_ := Aside0.mk (below_step HB.out hb); clear HB; have HB := n_; clear n_; clear hb)
        | (go_at_call 8; have hN := pledgesee_Is.calls (some 103) 103 true _ (HG.out.below HB.out) HIS.out; simp only [errW_some] at hN; (with_reducible refine hN.mono ?_); clear hN; rintro e w_ ⟨rfl, hb⟩; have n_ := Aside0.mk (HT.out.below hb); clear HT; have HT := n_; clear n_; have n_ := Aside0.mk (below_step HB.out hb); clear HB; have HB := n_; clear n_; clear hb))
      go_ret
      exact ⟨by first | rfl | simp, HB.out⟩
    obtain ⟨R1, hR1⟩ : ∃ R1, R1 = setR noR m a := ⟨_, rfl⟩
    obtain ⟨R2, hR2⟩ : ∃ R2, R2 = setR R1 m b := ⟨_, rfl⟩
    have HE1 := Aside0.mk (show setE m a = some 103 by unfold setE; rw [if_neg (by unfold setOK; omega)])
    have HE2 := Aside0.mk (show setE m b = none by unfold setE; rw [if_pos (by unfold setOK; omega)])
    have HR1 := Aside0.mk hR1.symm
    have HR2 := Aside0.mk hR2.symm
    have hs1 : setR noR m a = noR := by unfold setR; rw [if_neg (by unfold setOK; omega)]
    have hs2 : setR R1 m b = updR R1 m b := by unfold setR; rw [if_pos (by unfold setOK; omega)]
    have HGM := Aside0.mk (show getR R2 m = (b, true) by unfold getR; rw [if_neg (by omega), hR2, hs2]; simp [updR, noR])
    clear hs1 hs2
    clear hR1 hR2
    have ga1 : decide (m ≥ 2) = true := decide_eq_true (by omega)
    have ga2 : (m ≥ 2) = True := eq_true (by omega)
    have ga3 : decide (2 ≤ m) = true := decide_eq_true (by omega)
    have ga4 : (2 ≤ m) = True := eq_true (by omega)
    have gb1 : decide (m ≤ 6) = true := decide_eq_true (by omega)
    have gb2 : (m ≤ 6) = True := eq_true (by omega)
    have ge1 : (m == 1) = false := beq_false_of_ne (by omega)
    have ge2 : (m != 1) = true := by rw [bne, ge1, Bool.not_false]
    have gaa1 : decide (a ≥ 1) = true := decide_eq_true (by omega)
    have gaa2 : (a ≥ 1) = True := eq_true (by omega)
    have gaa3 : decide (1 ≤ a) = true := decide_eq_true (by omega)
    have gaa4 : (1 ≤ a) = True := eq_true (by omega)
    have gab1 : decide (a ≤ 1000000000) = false := decide_eq_false (by omega)
    have gab2 : (a ≤ 1000000000) = False := eq_false (by omega)
    have gba1 : decide (b ≥ 1) = true := decide_eq_true (by omega)
    have gba2 : (b ≥ 1) = True := eq_true (by omega)
    have gba3 : decide (1 ≤ b) = true := decide_eq_true (by omega)
    have gba4 : (1 ≤ b) = True := eq_true (by omega)
    have gbb1 : decide (b ≤ 1000000000) = true := decide_eq_true (by omega)
    have gbb2 : (b ≤ 1000000000) = True := eq_true (by omega)
    have gw1 : (b == 0) = false := beq_false_of_ne (by omega)
    have gw2 : (b != 0) = true := by rw [bne, gw1, Bool.not_false]
    have gx1 : (b == b) = true := beq_iff_eq.mpr rfl
    clear hm hqme1 hqml2 hqmg6 halow hahigh hblow hbhigh
    have tok := HG
    go_enter Tryd.func3, Tryd.ntmps3
    go_wp2_with (first
      | (go_at_call 5; refine (pledgelaw13_first.calls true _ (HG.out.below HB.out) H1.out).mono ?_; rintro e w_ ⟨rfl, hb⟩; have n_ := Aside0.mk (below_step HB.out hb); clear HB; have HB := n_; clear n_; clear hb)
      | (go_at_call 6; have hN := fun W_ => pledgeworld_Number.calls a0 9 z W_ HZ.out; (with_reducible refine (hN _).mono ?_); clear hN; rintro e w_ ⟨rfl, hd⟩; have hb := hd.below; have n_ := Aside0.mk (below_step HB.out hb); clear HB; have HB := n_; clear n_; clear hb hd)
      | ((with_reducible refine gate_dst (N := 8) rfl ?_); refine box_event ?hg (N := 8) ?hd (cs := #[.map none]) (t := 26) ?hr ?_; (case hd => rfl); (case hg => rfl); (case hr => first | (go_simp; done) | (go_simp; rfl)); intro rt hg_ w_ hbox hb; have HRT := Aside0.mk (show w.heap.size ≤ rt from Nat.le_trans (below_size HB.out) (Nat.le_of_eq hg_.symm)); have n_ := Aside0.mk (below_step HB.out hb); clear HB; have HB := n_; clear n_; have BTB := Aside0.mk hbox; clear hb hbox hg_; have HT := Aside0.mk (show TbR rt w.heap.size 0 noR w_ from Or.inl ⟨BTB.out, fun _ => rfl⟩); clear BTB; have HC0 := tok; clear tok)
      | (go_at_call 7; have tk_ := HC0; clear HC0 tk_; have hN := SetR.calls rt w.heap.size 0 noR m a _ (HG.out.below HB.out) HT.out HRT.out (below_size HB.out) (by omega); rw [HE1.out, HR1.out] at hN; simp only [errW_some] at hN; (with_reducible refine hN.mono ?_); clear hN; rintro e w_ ⟨rfl, ht, hb⟩; have n1_ := Aside0.mk ht; have n2_ := Aside0.mk (HB.out.trans hb); clear HT HB; have HT := n1_; have HB := n2_; clear n1_ n2_ ht hb; have HC1 := HRT)
      | (go_at_call 7; have tk_ := HC1; clear HC1 tk_; have hN := SetR.calls rt w.heap.size 1 R1 m b _ (HG.out.below HB.out) HT.out HRT.out (below_size HB.out) (by omega); rw [HE2.out, HR2.out] at hN; simp only [errW_none] at hN; (with_reducible refine hN.mono ?_); clear hN; rintro e w_ ⟨rfl, ht, hb⟩; have n1_ := Aside0.mk ht; have n2_ := Aside0.mk (HB.out.trans hb); clear HT HB; have HT := n1_; have HB := n2_; clear n1_ n2_ ht hb; have HC2 := HRT)
      | (go_at_call 9; have hN := GetR.calls rt w.heap.size 2 R2 m _ HT.out HM.out; rw [HGM.out] at hN; (with_reducible refine hN.mono ?_); clear hN; rintro e w_ ⟨rfl, hb⟩; have n_ := Aside0.mk (HT.out.below hb); clear HT; have HT := n_; clear n_; have n_ := Aside0.mk (below_step HB.out hb); clear HB; have HB := n_; clear n_; clear hb)
      | (go_at_call 9; have hN := GetR.calls rt w.heap.size 2 R2 1 _ HT.out (by unfold rg64; omega); rw [show getR R2 1 = (1000000, true) from rfl] at hN; (with_reducible refine hN.mono ?_); clear hN; rintro e w_ ⟨rfl, hb⟩; have n_ := Aside0.mk (HT.out.below hb); clear HT; have HT := n_; clear n_; have n_ := Aside0.mk (below_step HB.out hb); clear HB; have HB := n_; clear n_; clear hb)
      | (go_at_call 8; have hN := pledgesee_Is.calls (some 103) 103 true _ (HG.out.below HB.out) HIS.out; simp only [errW_some] at hN; (with_reducible refine hN.mono ?_); clear hN; rintro e w_ ⟨rfl, hb⟩; have n_ := Aside0.mk (HT.out.below hb); clear HT; have HT := n_; clear n_; have n_ := Aside0.mk (below_step HB.out hb); clear HB; have HB := n_; clear n_; clear hb))
    go_ret
    exact ⟨by first | rfl | simp, HB.out⟩
  by_cases hblow : b < 1
  · obtain ⟨R1, hR1⟩ : ∃ R1, R1 = setR noR m a := ⟨_, rfl⟩
    obtain ⟨R2, hR2⟩ : ∃ R2, R2 = setR R1 m b := ⟨_, rfl⟩
    have HE1 := Aside0.mk (show setE m a = none by unfold setE; rw [if_pos (by unfold setOK; omega)])
    have HE2 := Aside0.mk (show setE m b = some 103 by unfold setE; rw [if_neg (by unfold setOK; omega)])
    have HR1 := Aside0.mk hR1.symm
    have HR2 := Aside0.mk hR2.symm
    have hs1 : setR noR m a = updR noR m a := by unfold setR; rw [if_pos (by unfold setOK; omega)]
    have hs2 : setR R1 m b = R1 := by unfold setR; rw [if_neg (by unfold setOK; omega)]
    have HGM := Aside0.mk (show getR R2 m = (a, true) by unfold getR; rw [if_neg (by omega), hR2, hs2, hR1, hs1]; simp [updR, noR])
    clear hs1 hs2
    clear hR1 hR2
    have ga1 : decide (m ≥ 2) = true := decide_eq_true (by omega)
    have ga2 : (m ≥ 2) = True := eq_true (by omega)
    have ga3 : decide (2 ≤ m) = true := decide_eq_true (by omega)
    have ga4 : (2 ≤ m) = True := eq_true (by omega)
    have gb1 : decide (m ≤ 6) = true := decide_eq_true (by omega)
    have gb2 : (m ≤ 6) = True := eq_true (by omega)
    have ge1 : (m == 1) = false := beq_false_of_ne (by omega)
    have ge2 : (m != 1) = true := by rw [bne, ge1, Bool.not_false]
    have gaa1 : decide (a ≥ 1) = true := decide_eq_true (by omega)
    have gaa2 : (a ≥ 1) = True := eq_true (by omega)
    have gaa3 : decide (1 ≤ a) = true := decide_eq_true (by omega)
    have gaa4 : (1 ≤ a) = True := eq_true (by omega)
    have gab1 : decide (a ≤ 1000000000) = true := decide_eq_true (by omega)
    have gab2 : (a ≤ 1000000000) = True := eq_true (by omega)
    have gba1 : decide (b ≥ 1) = false := decide_eq_false (by omega)
    have gba2 : (b ≥ 1) = False := eq_false (by omega)
    have gba3 : decide (1 ≤ b) = false := decide_eq_false (by omega)
    have gba4 : (1 ≤ b) = False := eq_false (by omega)
    have gw1 : (a == 0) = false := beq_false_of_ne (by omega)
    have gw2 : (a != 0) = true := by rw [bne, gw1, Bool.not_false]
    have gx1 : (a == a) = true := beq_iff_eq.mpr rfl
    clear hm hqme1 hqml2 hqmg6 halow hahigh hblow
    have tok := HG
    go_enter Tryd.func3, Tryd.ntmps3
    go_wp2_with (first
      | (go_at_call 5; refine (pledgelaw13_first.calls true _ (HG.out.below HB.out) H1.out).mono ?_; rintro e w_ ⟨rfl, hb⟩; have n_ := Aside0.mk (below_step HB.out hb); clear HB; have HB := n_; clear n_; clear hb)
      | (go_at_call 6; have hN := fun W_ => pledgeworld_Number.calls a0 9 z W_ HZ.out; (with_reducible refine (hN _).mono ?_); clear hN; rintro e w_ ⟨rfl, hd⟩; have hb := hd.below; have n_ := Aside0.mk (below_step HB.out hb); clear HB; have HB := n_; clear n_; clear hb hd)
      | ((with_reducible refine gate_dst (N := 8) rfl ?_); refine box_event ?hg (N := 8) ?hd (cs := #[.map none]) (t := 26) ?hr ?_; (case hd => rfl); (case hg => rfl); (case hr => first | (go_simp; done) | (go_simp; rfl)); intro rt hg_ w_ hbox hb; have HRT := Aside0.mk (show w.heap.size ≤ rt from Nat.le_trans (below_size HB.out) (Nat.le_of_eq hg_.symm)); have n_ := Aside0.mk (below_step HB.out hb); clear HB; have HB := n_; clear n_; have BTB := Aside0.mk hbox; clear hb hbox hg_; have HT := Aside0.mk (show TbR rt w.heap.size 0 noR w_ from Or.inl ⟨BTB.out, fun _ => rfl⟩); clear BTB; have HC0 := tok; clear tok)
      | (go_at_call 7; have tk_ := HC0; clear HC0 tk_; have hN := SetR.calls rt w.heap.size 0 noR m a _ (HG.out.below HB.out) HT.out HRT.out (below_size HB.out) (by omega); rw [HE1.out, HR1.out] at hN; simp only [errW_none] at hN; (with_reducible refine hN.mono ?_); clear hN; rintro e w_ ⟨rfl, ht, hb⟩; have n1_ := Aside0.mk ht; have n2_ := Aside0.mk (HB.out.trans hb); clear HT HB; have HT := n1_; have HB := n2_; clear n1_ n2_ ht hb; have HC1 := HRT)
      | (go_at_call 7; have tk_ := HC1; clear HC1 tk_; have hN := SetR.calls rt w.heap.size 1 R1 m b _ (HG.out.below HB.out) HT.out HRT.out (below_size HB.out) (by omega); rw [HE2.out, HR2.out] at hN; simp only [errW_some] at hN; (with_reducible refine hN.mono ?_); clear hN; rintro e w_ ⟨rfl, ht, hb⟩; have n1_ := Aside0.mk ht; have n2_ := Aside0.mk (HB.out.trans hb); clear HT HB; have HT := n1_; have HB := n2_; clear n1_ n2_ ht hb; have HC2 := HRT)
      | (go_at_call 9; have hN := GetR.calls rt w.heap.size 2 R2 m _ HT.out HM.out; rw [HGM.out] at hN; (with_reducible refine hN.mono ?_); clear hN; rintro e w_ ⟨rfl, hb⟩; have n_ := Aside0.mk (HT.out.below hb); clear HT; have HT := n_; clear n_; have n_ := Aside0.mk (below_step HB.out hb); clear HB; have HB := n_; clear n_; clear hb)
      | (go_at_call 9; have hN := GetR.calls rt w.heap.size 2 R2 1 _ HT.out (by unfold rg64; omega); rw [show getR R2 1 = (1000000, true) from rfl] at hN; (with_reducible refine hN.mono ?_); clear hN; rintro e w_ ⟨rfl, hb⟩; have n_ := Aside0.mk (HT.out.below hb); clear HT; have HT := n_; clear n_; have n_ := Aside0.mk (below_step HB.out hb); clear HB; have HB := n_; clear n_; clear hb))
    go_ret
    exact ⟨by first | rfl | simp, HB.out⟩
  by_cases hbhigh : b > 1000000000
  · obtain ⟨R1, hR1⟩ : ∃ R1, R1 = setR noR m a := ⟨_, rfl⟩
    obtain ⟨R2, hR2⟩ : ∃ R2, R2 = setR R1 m b := ⟨_, rfl⟩
    have HE1 := Aside0.mk (show setE m a = none by unfold setE; rw [if_pos (by unfold setOK; omega)])
    have HE2 := Aside0.mk (show setE m b = some 103 by unfold setE; rw [if_neg (by unfold setOK; omega)])
    have HR1 := Aside0.mk hR1.symm
    have HR2 := Aside0.mk hR2.symm
    have hs1 : setR noR m a = updR noR m a := by unfold setR; rw [if_pos (by unfold setOK; omega)]
    have hs2 : setR R1 m b = R1 := by unfold setR; rw [if_neg (by unfold setOK; omega)]
    have HGM := Aside0.mk (show getR R2 m = (a, true) by unfold getR; rw [if_neg (by omega), hR2, hs2, hR1, hs1]; simp [updR, noR])
    clear hs1 hs2
    clear hR1 hR2
    have ga1 : decide (m ≥ 2) = true := decide_eq_true (by omega)
    have ga2 : (m ≥ 2) = True := eq_true (by omega)
    have ga3 : decide (2 ≤ m) = true := decide_eq_true (by omega)
    have ga4 : (2 ≤ m) = True := eq_true (by omega)
    have gb1 : decide (m ≤ 6) = true := decide_eq_true (by omega)
    have gb2 : (m ≤ 6) = True := eq_true (by omega)
    have ge1 : (m == 1) = false := beq_false_of_ne (by omega)
    have ge2 : (m != 1) = true := by rw [bne, ge1, Bool.not_false]
    have gaa1 : decide (a ≥ 1) = true := decide_eq_true (by omega)
    have gaa2 : (a ≥ 1) = True := eq_true (by omega)
    have gaa3 : decide (1 ≤ a) = true := decide_eq_true (by omega)
    have gaa4 : (1 ≤ a) = True := eq_true (by omega)
    have gab1 : decide (a ≤ 1000000000) = true := decide_eq_true (by omega)
    have gab2 : (a ≤ 1000000000) = True := eq_true (by omega)
    have gba1 : decide (b ≥ 1) = true := decide_eq_true (by omega)
    have gba2 : (b ≥ 1) = True := eq_true (by omega)
    have gba3 : decide (1 ≤ b) = true := decide_eq_true (by omega)
    have gba4 : (1 ≤ b) = True := eq_true (by omega)
    have gbb1 : decide (b ≤ 1000000000) = false := decide_eq_false (by omega)
    have gbb2 : (b ≤ 1000000000) = False := eq_false (by omega)
    have gw1 : (a == 0) = false := beq_false_of_ne (by omega)
    have gw2 : (a != 0) = true := by rw [bne, gw1, Bool.not_false]
    have gx1 : (a == a) = true := beq_iff_eq.mpr rfl
    clear hm hqme1 hqml2 hqmg6 halow hahigh hblow hbhigh
    have tok := HG
    go_enter Tryd.func3, Tryd.ntmps3
    go_wp2_with (first
      | (go_at_call 5; refine (pledgelaw13_first.calls true _ (HG.out.below HB.out) H1.out).mono ?_; rintro e w_ ⟨rfl, hb⟩; have n_ := Aside0.mk (below_step HB.out hb); clear HB; have HB := n_; clear n_; clear hb)
      | (go_at_call 6; have hN := fun W_ => pledgeworld_Number.calls a0 9 z W_ HZ.out; (with_reducible refine (hN _).mono ?_); clear hN; rintro e w_ ⟨rfl, hd⟩; have hb := hd.below; have n_ := Aside0.mk (below_step HB.out hb); clear HB; have HB := n_; clear n_; clear hb hd)
      | ((with_reducible refine gate_dst (N := 8) rfl ?_); refine box_event ?hg (N := 8) ?hd (cs := #[.map none]) (t := 26) ?hr ?_; (case hd => rfl); (case hg => rfl); (case hr => first | (go_simp; done) | (go_simp; rfl)); intro rt hg_ w_ hbox hb; have HRT := Aside0.mk (show w.heap.size ≤ rt from Nat.le_trans (below_size HB.out) (Nat.le_of_eq hg_.symm)); have n_ := Aside0.mk (below_step HB.out hb); clear HB; have HB := n_; clear n_; have BTB := Aside0.mk hbox; clear hb hbox hg_; have HT := Aside0.mk (show TbR rt w.heap.size 0 noR w_ from Or.inl ⟨BTB.out, fun _ => rfl⟩); clear BTB; have HC0 := tok; clear tok)
      | (go_at_call 7; have tk_ := HC0; clear HC0 tk_; have hN := SetR.calls rt w.heap.size 0 noR m a _ (HG.out.below HB.out) HT.out HRT.out (below_size HB.out) (by omega); rw [HE1.out, HR1.out] at hN; simp only [errW_none] at hN; (with_reducible refine hN.mono ?_); clear hN; rintro e w_ ⟨rfl, ht, hb⟩; have n1_ := Aside0.mk ht; have n2_ := Aside0.mk (HB.out.trans hb); clear HT HB; have HT := n1_; have HB := n2_; clear n1_ n2_ ht hb; have HC1 := HRT)
      | (go_at_call 7; have tk_ := HC1; clear HC1 tk_; have hN := SetR.calls rt w.heap.size 1 R1 m b _ (HG.out.below HB.out) HT.out HRT.out (below_size HB.out) (by omega); rw [HE2.out, HR2.out] at hN; simp only [errW_some] at hN; (with_reducible refine hN.mono ?_); clear hN; rintro e w_ ⟨rfl, ht, hb⟩; have n1_ := Aside0.mk ht; have n2_ := Aside0.mk (HB.out.trans hb); clear HT HB; have HT := n1_; have HB := n2_; clear n1_ n2_ ht hb; have HC2 := HRT)
      | (go_at_call 9; have hN := GetR.calls rt w.heap.size 2 R2 m _ HT.out HM.out; rw [HGM.out] at hN; (with_reducible refine hN.mono ?_); clear hN; rintro e w_ ⟨rfl, hb⟩; have n_ := Aside0.mk (HT.out.below hb); clear HT; have HT := n_; clear n_; have n_ := Aside0.mk (below_step HB.out hb); clear HB; have HB := n_; clear n_; clear hb)
      | (go_at_call 9; have hN := GetR.calls rt w.heap.size 2 R2 1 _ HT.out (by unfold rg64; omega); rw [show getR R2 1 = (1000000, true) from rfl] at hN; (with_reducible refine hN.mono ?_); clear hN; rintro e w_ ⟨rfl, hb⟩; have n_ := Aside0.mk (HT.out.below hb); clear HT; have HT := n_; clear n_; have n_ := Aside0.mk (below_step HB.out hb); clear HB; have HB := n_; clear n_; clear hb))
    go_ret
    exact ⟨by first | rfl | simp, HB.out⟩
  obtain ⟨R1, hR1⟩ : ∃ R1, R1 = setR noR m a := ⟨_, rfl⟩
  obtain ⟨R2, hR2⟩ : ∃ R2, R2 = setR R1 m b := ⟨_, rfl⟩
  have HE1 := Aside0.mk (show setE m a = none by unfold setE; rw [if_pos (by unfold setOK; omega)])
  have HE2 := Aside0.mk (show setE m b = none by unfold setE; rw [if_pos (by unfold setOK; omega)])
  have HR1 := Aside0.mk hR1.symm
  have HR2 := Aside0.mk hR2.symm
  have hs1 : setR noR m a = updR noR m a := by unfold setR; rw [if_pos (by unfold setOK; omega)]
  have hs2 : setR R1 m b = updR R1 m b := by unfold setR; rw [if_pos (by unfold setOK; omega)]
  have HGM := Aside0.mk (show getR R2 m = (b, true) by unfold getR; rw [if_neg (by omega), hR2, hs2]; simp [updR, noR])
  clear hs1 hs2
  clear hR1 hR2
  have ga1 : decide (m ≥ 2) = true := decide_eq_true (by omega)
  have ga2 : (m ≥ 2) = True := eq_true (by omega)
  have ga3 : decide (2 ≤ m) = true := decide_eq_true (by omega)
  have ga4 : (2 ≤ m) = True := eq_true (by omega)
  have gb1 : decide (m ≤ 6) = true := decide_eq_true (by omega)
  have gb2 : (m ≤ 6) = True := eq_true (by omega)
  have ge1 : (m == 1) = false := beq_false_of_ne (by omega)
  have ge2 : (m != 1) = true := by rw [bne, ge1, Bool.not_false]
  have gaa1 : decide (a ≥ 1) = true := decide_eq_true (by omega)
  have gaa2 : (a ≥ 1) = True := eq_true (by omega)
  have gaa3 : decide (1 ≤ a) = true := decide_eq_true (by omega)
  have gaa4 : (1 ≤ a) = True := eq_true (by omega)
  have gab1 : decide (a ≤ 1000000000) = true := decide_eq_true (by omega)
  have gab2 : (a ≤ 1000000000) = True := eq_true (by omega)
  have gba1 : decide (b ≥ 1) = true := decide_eq_true (by omega)
  have gba2 : (b ≥ 1) = True := eq_true (by omega)
  have gba3 : decide (1 ≤ b) = true := decide_eq_true (by omega)
  have gba4 : (1 ≤ b) = True := eq_true (by omega)
  have gbb1 : decide (b ≤ 1000000000) = true := decide_eq_true (by omega)
  have gbb2 : (b ≤ 1000000000) = True := eq_true (by omega)
  have gw1 : (b == 0) = false := beq_false_of_ne (by omega)
  have gw2 : (b != 0) = true := by rw [bne, gw1, Bool.not_false]
  have gx1 : (b == b) = true := beq_iff_eq.mpr rfl
  clear hm hqme1 hqml2 hqmg6 halow hahigh hblow hbhigh
  have tok := HG
  go_enter Tryd.func3, Tryd.ntmps3
  go_wp2_with (first
    | (go_at_call 5; refine (pledgelaw13_first.calls true _ (HG.out.below HB.out) H1.out).mono ?_; rintro e w_ ⟨rfl, hb⟩; have n_ := Aside0.mk (below_step HB.out hb); clear HB; have HB := n_; clear n_; clear hb)
    | (go_at_call 6; have hN := fun W_ => pledgeworld_Number.calls a0 9 z W_ HZ.out; (with_reducible refine (hN _).mono ?_); clear hN; rintro e w_ ⟨rfl, hd⟩; have hb := hd.below; have n_ := Aside0.mk (below_step HB.out hb); clear HB; have HB := n_; clear n_; clear hb hd)
    | ((with_reducible refine gate_dst (N := 8) rfl ?_); refine box_event ?hg (N := 8) ?hd (cs := #[.map none]) (t := 26) ?hr ?_; (case hd => rfl); (case hg => rfl); (case hr => first | (go_simp; done) | (go_simp; rfl)); intro rt hg_ w_ hbox hb; have HRT := Aside0.mk (show w.heap.size ≤ rt from Nat.le_trans (below_size HB.out) (Nat.le_of_eq hg_.symm)); have n_ := Aside0.mk (below_step HB.out hb); clear HB; have HB := n_; clear n_; have BTB := Aside0.mk hbox; clear hb hbox hg_; have HT := Aside0.mk (show TbR rt w.heap.size 0 noR w_ from Or.inl ⟨BTB.out, fun _ => rfl⟩); clear BTB; have HC0 := tok; clear tok)
    | (go_at_call 7; have tk_ := HC0; clear HC0 tk_; have hN := SetR.calls rt w.heap.size 0 noR m a _ (HG.out.below HB.out) HT.out HRT.out (below_size HB.out) (by omega); rw [HE1.out, HR1.out] at hN; simp only [errW_none] at hN; (with_reducible refine hN.mono ?_); clear hN; rintro e w_ ⟨rfl, ht, hb⟩; have n1_ := Aside0.mk ht; have n2_ := Aside0.mk (HB.out.trans hb); clear HT HB; have HT := n1_; have HB := n2_; clear n1_ n2_ ht hb; have HC1 := HRT)
    | (go_at_call 7; have tk_ := HC1; clear HC1 tk_; have hN := SetR.calls rt w.heap.size 1 R1 m b _ (HG.out.below HB.out) HT.out HRT.out (below_size HB.out) (by omega); rw [HE2.out, HR2.out] at hN; simp only [errW_none] at hN; (with_reducible refine hN.mono ?_); clear hN; rintro e w_ ⟨rfl, ht, hb⟩; have n1_ := Aside0.mk ht; have n2_ := Aside0.mk (HB.out.trans hb); clear HT HB; have HT := n1_; have HB := n2_; clear n1_ n2_ ht hb; have HC2 := HRT)
    | (go_at_call 9; have hN := GetR.calls rt w.heap.size 2 R2 m _ HT.out HM.out; rw [HGM.out] at hN; (with_reducible refine hN.mono ?_); clear hN; rintro e w_ ⟨rfl, hb⟩; have n_ := Aside0.mk (HT.out.below hb); clear HT; have HT := n_; clear n_; have n_ := Aside0.mk (below_step HB.out hb); clear HB; have HB := n_; clear n_; clear hb)
    | (go_at_call 9; have hN := GetR.calls rt w.heap.size 2 R2 1 _ HT.out (by unfold rg64; omega); rw [show getR R2 1 = (1000000, true) from rfl] at hN; (with_reducible refine hN.mono ?_); clear hN; rintro e w_ ⟨rfl, hb⟩; have n_ := Aside0.mk (HT.out.below hb); clear HT; have HT := n_; clear n_; have n_ := Aside0.mk (below_step HB.out hb); clear HB; have HB := n_; clear n_; clear hb))
  go_ret
  exact ⟨by first | rfl | simp, HB.out⟩
set_option maxHeartbeats 4000000 in
theorem pledgelaw13_FxBase.calls [Inhabited (Int → Addr)] (a0 a b : Int) (r : Bool) (w : World) (hG : GlobOK w) (h : pledgelaw13_FxBase.f a0 a b = some r) :
    Calls Tryd.prog 3 #[.int .i64 a0, .int .i64 a, .int .i64 b] w fun e w' => e = .returned (.bool r) ∧ Below w.heap.size w w' := by
  unfold pledgelaw13_FxBase.f at h
  obtain ⟨t, h1, h⟩ := Option.bind_eq_some_iff.mp h
  cases t with
  | false =>
    exfalso
    unfold pledgelaw13_first.f at h1
    obtain ⟨z, _, h1⟩ := Option.bind_eq_some_iff.mp h1
    split at h1 <;> simp at h1
  | true =>
    rw [if_pos rfl] at h
    obtain ⟨s, his, h⟩ := Option.bind_eq_some_iff.mp h
    cases s with
    | false => simp at h
    | true =>
      rw [if_pos rfl] at h
      obtain rfl := Option.some.inj h
      obtain ⟨z, hz, hzm⟩ := fnum_f a0
      exact FxBase.way a0 a b (fnum a0) z none none w hG h1 his hz hzm (fnum_rng a0)

/-- The pure statement of pledgelaw13_FxBase: numbers and lists alone. -/
def pledgelaw13_FxBase.Pure : Prop := ∀ (a0 : Int) (a1 : Int) (a2 : Int), Rng .i64 a0 → Rng .i64 a1 → Rng .i64 a2 → pledgelaw13_FxBase.f a0 a1 a2 = some true

end Go.Proofs.YtambndaimehpmaaDoor.EFxBase
