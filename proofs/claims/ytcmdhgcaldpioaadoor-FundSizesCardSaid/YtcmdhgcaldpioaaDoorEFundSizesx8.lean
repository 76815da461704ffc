/- The functions that the law comes to, as plain functions, and for each a proof that the Go code comes to just these answers. Written by a program of this claim. Conditions: each theorem bears its own. -/
import Derived.Test.YtcmdhgcaldpioaaDoorEFundSizesx0
import Derived.Test.YtcmdhgcaldpioaaDoorEFundSizesx1
import Derived.Test.YtcmdhgcaldpioaaDoorEFundSizesx5
import Derived.Test.YtcmdhgcaldpioaaDoorEFundSizesx6
import Derived.Test.YtcmdhgcaldpioaaDoorEFundSizesx7
namespace Go.Proofs.YtcmdhgcaldpioaaDoor.EFundSizes
open Go.RowKit Go.Proofs.YtcmdhgcaldpioaaDoorW.PrintWords Go.Proofs.YtcmdhgcaldpioaaDoorW.PrintLast Go.Proofs.YtcmdhgcaldpioaaDoorW.PrintMore Go.Proofs.YtcmdhgcaldpioaaDoorW.PrintOpen
attribute [local go_sem] max2_int min2_int max_two min_two max_three min_three max_four min_four   -- for this text's walks alone
set_option linter.unusedVariables false
set_option linter.unusedSimpArgs false

/-! ### pledgelaw24_FundSizes: function 6 -/
/-! ### A table with a map -/
theorem tabLaid : laidOutB Tryd.prog = true := by kernel_rfl
theorem cellRow : (47 : TypeId) < Tryd.prog.types.size := of_decide_eq_true (by kernel_rfl)
theorem cellWide : (match Tryd.prog.underlying 47 with | some (.array _ _) | some (.struct _) => true | _ => false) = true := by kernel_rfl
set_option maxRecDepth 100000 in
theorem cellDeep : Tryd.prog.keyTypeAt 2 47 = true := by kernel_rfl
set_option maxRecDepth 100000 in
theorem cellKeyed : Go.Maps.Keyed Tryd.prog 47 := Go.Maps.Keyed.of_law (deep_law_laid tabLaid (m := 2) (by omega) cellRow cellDeep cellWide)
theorem cellKeyT : Tryd.prog.keyType 47 = true := by kernel_rfl
theorem cellCells : Tryd.prog.cellsOf 47 = 2 := by kernel_rfl
theorem cell3 : Tryd.prog.cellsOf 3 = 1 := by kernel_rfl
theorem cellSize : ∃ m, Tryd.prog.types.size = m + 1 := ⟨Tryd.prog.types.size - 1, by have : 0 < Tryd.prog.types.size := of_decide_eq_true (by kernel_rfl); omega⟩
/-- A cell of the table, as the map's key. -/
noncomputable def ck (s m : Int) : Lit := (keyOf Tryd.prog 47 (.agg #[.int .i64 s, .int .i64 m])).getD (.bool false)
def rg16 (s m : Int) : Prop := (1 ≤ s ∧ s ≤ 16) ∧ (1 ≤ m ∧ m ≤ 32)
theorem wf64 (s : Int) (h : -1000000000000000000 ≤ s ∧ s ≤ 1000000000000000000) : (Lit.int .i64 s).wf = true := by
  simp only [Lit.wf, Bool.and_eq_true, decide_eq_true_eq]
  have e1 : IntKind.i64.min = -9223372036854775808 := by decide
  have e2 : IntKind.i64.max = 9223372036854775807 := by decide
  rw [e1, e2]
  omega
theorem keyOf_two {P : Program} {k i : TypeId} {f0 f1 : Field} (hu : P.underlying k = some (.struct #[f0, f1])) (o0 : f0.offset = 0) (o1 : f1.offset = 1) (t0 : f0.type = i) (t1 : f1.type = i) (n0 : f0.name ≠ "_") (n1 : f1.name ≠ "_")
    (hi : P.underlying i = some (.int .i64)) (hc : P.cellsOf i = 1) (hk : P.keyType k = true) (hcc : P.cellsOf k = 2) (hz : ∃ z, P.types.size = z + 1) (s m : Int) (w1 : (Lit.int .i64 s).wf = true) (w2 : (Lit.int .i64 m).wf = true) : ∃ l, keyOf P k (.agg #[.int .i64 s, .int .i64 m]) = some l := by
  obtain ⟨z, hz⟩ := hz
  unfold keyOf
  rw [hu]
  simp [hk, Value.formed, hu, hcc, Value.cells, hz, Program.keyLits, hi, hc, w1, w2, o0, o1, t0, t1, n0, n1]
theorem getD_some {α : Type} {o : Option α} {d : α} (h : ∃ l, o = some l) : o = some (o.getD d) := by
  obtain ⟨l, rfl⟩ := h
  rfl
theorem ck_key (s m : Int) (h : rg16 s m) : keyOf Tryd.prog 47 (.agg #[.int .i64 s, .int .i64 m]) = some (ck s m) := by
  unfold ck
  exact getD_some (keyOf_two Tryd.underlying47 rfl rfl rfl rfl (by decide) (by decide) Tryd.underlying3 cell3 cellKeyT cellCells cellSize s m (wf64 s (by have := h.1; omega)) (wf64 m (by have := h.2; omega)))
attribute [irreducible] ck
theorem ck_inj (s m s' m' : Int) (h : rg16 s m) (h' : rg16 s' m') (e : ck s m = ck s' m') : s = s' ∧ m = m' := by
  have a := ck_key s m h
  have b := ck_key s' m' h'
  rw [← e] at b
  have c := cellKeyed.inj a b
  simp at c
  exact c
theorem ck_lit (s m : Int) (h : rg16 s m) : WideAt.IsKeyLit (ck s m) := cellKeyed.key (ck_key s m h)
/-- A table in block bt, whose losses are T; its map (if it has one) lies in a block from base on. -/
def TbM (bt base n : Nat) (T : Int → Int → Int) (w : World) : Prop :=
  (w.heap[bt]? = some (.cells #[.map none] 33 (0, 0)) ∧ ∀ s m, T s m = 0) ∨
  ∃ (b : Nat) (D : DataW Unit), w.heap[bt]? = some (.cells #[.map (some b)] 33 (0, 0)) ∧ base ≤ b ∧ b ≠ bt ∧ w.ownsMap Tryd.prog 47 (plainElem Tryd.prog 2) b n D ∧ ∀ s m, rg16 s m → D.atKey (ck s m) (.lit (.int .i64 0)) = .lit (.int .i64 (T s m))
theorem TbM.below {bt base n : Nat} {T : Int → Int → Int} {w w' : World} (h : TbM bt base n T w) (hb : Below w.heap.size w w') : TbM bt base n T w' := by
  rcases h with ⟨h, hT⟩ | ⟨b, D, h, hl, hne, ⟨es, clock, he, r⟩, hT⟩
  · exact Or.inl ⟨blk_below h hb, hT⟩
  · exact Or.inr ⟨b, D, blk_below h hb, hl, hne, ⟨es, clock, blk_below he hb, r⟩, hT⟩
def updT (T : Int → Int → Int) (s m v : Int) : Int → Int → Int := fun s' m' => if s' = s ∧ m' = m then v else T s' m'
theorem atKey_upd {D : DataW Unit} {T : Int → Int → Int} (hm : Go.Maps.IsMap D) (hT : ∀ s m, rg16 s m → D.atKey (ck s m) (.lit (.int .i64 0)) = .lit (.int .i64 (T s m))) (s m v : Int) (h : rg16 s m) (s' m' : Int) (h' : rg16 s' m') : (D.put (ck s m) (.lit (.int .i64 v))).atKey (ck s' m') (.lit (.int .i64 0)) = .lit (.int .i64 (updT T s m v s' m')) := by
  unfold updT
  by_cases e : s' = s ∧ m' = m
  · obtain ⟨rfl, rfl⟩ := e
    rw [if_pos ⟨rfl, rfl⟩]
    exact Go.Maps.atKey_put_same hm (ck_lit s' m' h) _ _
  · rw [if_neg e, Go.Maps.atKey_put_other (fun c => e (ck_inj s' m' s m h' h c))]
    exact hT s' m' h'
theorem atKey_del0 {D : DataW Unit} {T : Int → Int → Int} (s m : Int) (hT : ∀ s' m', rg16 s' m' → D.atKey (ck s' m') (.lit (.int .i64 0)) = .lit (.int .i64 (updT T s m 0 s' m'))) (h : rg16 s m) (s' m' : Int) (h' : rg16 s' m') : (D.del (ck s m)).atKey (ck s' m') (.lit (.int .i64 0)) = .lit (.int .i64 (updT T s m 0 s' m')) := by
  by_cases e : s' = s ∧ m' = m
  · obtain ⟨rfl, rfl⟩ := e
    rw [Go.Maps.atKey_del_same]
    unfold updT
    rw [if_pos ⟨rfl, rfl⟩]
  · rw [Go.Maps.atKey_del_other (fun c => e (ck_inj s' m' s m h' h c))]
    exact hT s' m' h'
theorem atKey_none (s m : Int) : (DataW.map (H := Unit) []).atKey (ck s m) (.lit (.int .i64 0)) = .lit (.int .i64 0) := rfl
theorem zeroE2 (w : World) : (zeroValue 2).run Tryd.prog w = .ok (.int .i64 0) w := by kernel_rfl
/-- Get's answer, whatever the table's state. -/
theorem look_far {b n : Nat} {D : DataW Unit} {T : Int → Int → Int} {W : World} (hown : W.ownsMap Tryd.prog 47 (plainElem Tryd.prog 2) b n D) (hT : ∀ s m, rg16 s m → D.atKey (ck s m) (.lit (.int .i64 0)) = .lit (.int .i64 (T s m))) (s m : Int) (h : rg16 s m) :
    (Instr.lookup 31 (.map (some b)) (.agg #[.int .i64 s, .int .i64 m]) false).run Tryd.prog W = .ok (.int .i64 (T s m)) W := by
  obtain ⟨c, hrun, hat, _⟩ := hown.lookup_int cellKeyed Tryd.underlying31 Tryd.underlying2 (zeroE2 W) (ck_key s m h)
  rw [hT s m h] at hat
  simp at hat
  rw [hat]
  exact hrun
theorem own_below {w W : World} {b n : Nat} {D : DataW Unit} (h : w.ownsMap Tryd.prog 47 (plainElem Tryd.prog 2) b n D) (hb : Below w.heap.size w W) : W.ownsMap Tryd.prog 47 (plainElem Tryd.prog 2) b n D := by
  obtain ⟨es, clock, he, r⟩ := h
  exact ⟨es, clock, blk_below he hb, r⟩
set_option maxHeartbeats 4000000 in
set_option maxRecDepth 100000 in
theorem get_map [Inhabited (Int → Addr)] (bt b n : Nat) (D : DataW Unit) (T : Int → Int → Int) (w : World) (hb0 : w.heap[bt]? = some (.cells #[.map (some b)] 33 (0, 0))) (ho : w.ownsMap Tryd.prog 47 (plainElem Tryd.prog 2) b n D) (hT : ∀ s m, rg16 s m → D.atKey (ck s m) (.lit (.int .i64 0)) = .lit (.int .i64 (T s m))) : TbG bt T w := by
  intro s m hs hm W hW
  have hbt := blk_below hb0 hW
  have hu1 := Tryd.underlying47
  have hu2 := Tryd.underlying33
  have hu3 := Tryd.underlying31
  have HLK := Aside0.mk (fun (W2 : World) (h2 : Below W.heap.size W W2) => look_far (own_below (own_below ho hW) h2) hT s m ⟨hs, hm⟩)
  have BK := Aside0.mk hbt
  clear hW hb0 hbt ho hT hs hm
  go_enter Tryd.func50, Tryd.ntmps50
  go_wp2_with ((with_reducible refine gate_dst (N := 3) rfl ?_); refine box_event ?hg (N := 3) ?hd (cs := #[.int .i64 s, .int .i64 m]) (t := 47) ?hr ?_; (case hd => rfl); (case hg => rfl); (case hr => first | (go_simp; done) | (go_simp; rfl)); intro gc hg_ w_ hbox hb; have HB := Aside0.mk hb; have BX := Aside0.mk hbox; have n_ := Aside0.mk (blk_below BK.out hb); clear BK; have BK := n_; clear n_ hb hbox hg_)
  have k0 := cell_far ((blk_cell BX.out 0).trans (show _ = some (.int .i64 s) from rfl))
  have k1 := cell_far ((blk_cell BX.out 1).trans (show _ = some (.int .i64 m) from rfl))
  have k2 := cell_far ((blk_cell BK.out 0).trans (show _ = some (.map (some b)) from rfl))
  have hlk := fun p : FarW w_ => HLK.out p.W (below_step HB.out p.h)
  refine wp_region_far (by kernel_rfl) (by kernel_rfl) ?_
  repeat (refine wpQuiet_step (fun K hK => ?_); go_simp; (refine hK _ ?_; clear hK K))
  refine wpQuiet_nil ?_
  intro _ hw'
  obtain ⟨pq, hw''⟩ := hw'
  subst hw''
  have HB2 := Aside0.mk (below_step HB.out pq.h)
  clear k0 k1 k2 hlk
  generalize pq.W = w2 at HB2 ⊢
  clear pq
  go_wp2
  go_ret
  exact ⟨rfl, HB2.out⟩
theorem get_tab [Inhabited (Int → Addr)] (bt base n : Nat) (T : Int → Int → Int) (w : World) (h : TbM bt base n T w) : TbG bt T w := by
  rcases h with ⟨h, hT⟩ | ⟨b, D, h, _, _, ho, hT⟩
  · have e : T = fun _ _ => 0 := funext fun s => funext fun m => hT s m
    subst e
    exact get_nil bt w h
  · exact get_map bt b n D T w h ho hT
theorem nil_size {D : DataW Unit} (h : Go.Maps.IsMap D) (hs : Go.Maps.size D = 0) : D = .map [] := by
  obtain ⟨es, rfl⟩ := h
  cases es with
  | nil => rfl
  | cons a l => simp [Go.Maps.size] at hs
theorem value_ {P : Program} {ops : Array Oper} {Q : Exit → Act → World → Prop} {oi : Oper} {a : Act} {w w1 : World} {v : Value} {K : Act → World → Prop} (hw : Region.wanted oi (yielded ops a.tmps) = true) (hN : oi.dst = none) (hrun : (execOp a.eval oi).run P w = .ok (.value v) w1)
    (h : K a w1) : if Region.wanted oi (yielded ops a.tmps) = true then Oper.wp P oi a w K Q else K (a.put none undef) w := by
  rw [if_pos hw]
  unfold Oper.wp
  rw [hrun]
  show K (a.put oi.dst v) w1
  rw [hN]
  exact h
theorem tb_alloc {w : World} {g : Nat} {o : Obj} (h : w.heap[g]? = some o) (o' : Obj) : (w.alloc o').heap[g]? = some o := (Below.heap_alloc w o' g (blk_lt h)).trans h
theorem turn_blk {w w' : World} {b g : Nat} {o : Obj} (h : w.mapTurned w' b) (hg : w.heap[g]? = some o) (hne : g ≠ b) : w'.heap[g]? = some o := (h.grown.block g (blk_lt hg) (fun e => hne (Option.some.inj e))).trans hg
theorem room {n : Nat} (h : n < 1000) : n < maxLen := Nat.lt_of_lt_of_le h (by decide)
theorem wfv {v : Int} (h : amtB v = true) : (Lit.int .i64 v).wf = true := wf64 v (by unfold amtB at h; have := of_decide_eq_true h; omega)
set_option maxHeartbeats 8000000 in
set_option maxRecDepth 1000000 in
theorem Set.nilcase [Inhabited (Int → Addr)] (bt base n : Nat) (T : Int → Int → Int) (s m v : Int) (w : World) (hG : GlobOK w) (hb0 : w.heap[bt]? = some (.cells #[.map none] 33 (0, 0))) (hT : ∀ s m, rg16 s m → T s m = 0) (hbt : base ≤ bt) (hbase : base ≤ w.heap.size) (hn : n < 1000) (h : rg16 s m) (hv : amtB v = true) :
    Calls Tryd.prog 12 #[.pointer (some ⟨bt, 0, none⟩), .agg #[.int .i64 s, .int .i64 m], .int .i64 v] w fun e w' => e = .returned .nilIface ∧ TbM bt base (n + 1) (updT T s m v) w' ∧ Below base w w' := by
  have hu1 := Tryd.underlying47
  have hu2 := Tryd.underlying33
  have hu3 := Tryd.underlying31
  have HSC := Aside0.mk (scene_t s h.1)
  have HAM := Aside0.mk ((amountS_b v).trans (congrArg some hv))
  have HR := Aside0.mk h
  have HV := Aside0.mk hv
  have HBT := Aside0.mk hbt
  have HBS := Aside0.mk hbase
  have HN := Aside0.mk hn
  have HG := Aside0.mk hG
  have HB := Aside0.mk (Below.refl w.heap.size w)
  have cb0 : decide (m < 1) = false := decide_eq_false (by have := h.2; omega)
  have cb1 : decide (m > 32) = false := decide_eq_false (by have := h.2; omega)
  have cb2 : decide (32 < m) = false := decide_eq_false (by have := h.2; omega)
  have BK := Aside0.mk hb0
  have BK0 := Aside0.mk hb0
  have HT0 := Aside0.mk hT
  clear hb0 hT
  have k2 := (blk_cell BK.out 0).trans (show _ = some (.map none) from rfl)
  have f2 := blk_frozen BK.out 0
  have kA := (blk_cell (tb_alloc BK.out (.map #[] 0)) 0).trans (show _ = some (.map none) from rfl)
  have fA := blk_frozen (tb_alloc BK.out (.map #[] 0)) 0
  clear h hv hbt hbase hn hG
  have hmm := @run_makeMap Tryd.prog
  go_enter Tryd.func12, Tryd.ntmps12
  go_wp2_with (first
    | ((with_reducible refine gate_dst (N := 4) rfl ?_); refine box_event ?hg (N := 4) ?hd (cs := #[.int .i64 s, .int .i64 m]) (t := 47) ?hr ?_; (case hd => rfl); (case hg => rfl); (case hr => first | (go_simp; done) | (go_simp; rfl)); intro gc hg_ w_ hbox hb; have HGC := Aside0.mk hg_; have BX := Aside0.mk hbox; have n_ := Aside0.mk (blk_below BK.out hb); clear BK; have BK := n_; clear n_; have n_ := Aside0.mk (below_step HB.out hb); clear HB; have HB := n_; clear n_ hb hbox hg_; clear k2 f2 kA fA; have k0 := (blk_cell BX.out 0).trans (show _ = some (.int .i64 s) from rfl); have k1 := (blk_cell BX.out 1).trans (show _ = some (.int .i64 m) from rfl); have k2 := (blk_cell BK.out 0).trans (show _ = some (.map none) from rfl); have f2 := blk_frozen BK.out 0; have kA := (blk_cell (tb_alloc BK.out (.map #[] 0)) 0).trans (show _ = some (.map none) from rfl); have fA := blk_frozen (tb_alloc BK.out (.map #[] 0)) 0)
    | (go_at_call 28; have hN := fun W_ => stress_scene.calls s true W_ HSC.out; (with_reducible refine (hN _).mono ?_); clear hN; rintro e w_ ⟨rfl, hd⟩; have hb := hd.below; clear k0 k1 k2 f2 kA fA; have n0_ := Aside0.mk (blk_below BK.out hb); have n1_ := Aside0.mk (blk_below BX.out hb); have n2_ := Aside0.mk (below_step HB.out hb); clear BK BX HB; have BK := n0_; have BX := n1_; have HB := n2_; clear n0_ n1_ n2_; have k0 := (blk_cell BX.out 0).trans (show _ = some (.int .i64 s) from rfl); have k1 := (blk_cell BX.out 1).trans (show _ = some (.int .i64 m) from rfl); have k2 := (blk_cell BK.out 0).trans (show _ = some (.map none) from rfl); have f2 := blk_frozen BK.out 0; have kA := (blk_cell (tb_alloc BK.out (.map #[] 0)) 0).trans (show _ = some (.map none) from rfl); have fA := blk_frozen (tb_alloc BK.out (.map #[] 0)) 0; clear hb hd)
    | (go_at_call 29; have hN := fun W_ => stress_amount.calls v true W_ HAM.out; (with_reducible refine (hN _).mono ?_); clear hN; rintro e w_ ⟨rfl, hd⟩; have hb := hd.below; clear k0 k1 k2 f2 kA fA; have n0_ := Aside0.mk (blk_below BK.out hb); have n1_ := Aside0.mk (blk_below BX.out hb); have n2_ := Aside0.mk (below_step HB.out hb); clear BK BX HB; have BK := n0_; have BX := n1_; have HB := n2_; clear n0_ n1_ n2_; have k0 := (blk_cell BX.out 0).trans (show _ = some (.int .i64 s) from rfl); have k1 := (blk_cell BX.out 1).trans (show _ = some (.int .i64 m) from rfl); have k2 := (blk_cell BK.out 0).trans (show _ = some (.map none) from rfl); have f2 := blk_frozen BK.out 0; have kA := (blk_cell (tb_alloc BK.out (.map #[] 0)) 0).trans (show _ = some (.map none) from rfl); have fA := blk_frozen (tb_alloc BK.out (.map #[] 0)) 0; clear hb hd))
  clear hmm
  have HNE := Aside0.mk (show gc ≠ bt by have := blk_lt BK0.out; have := HGC.out; omega)
  have hne := Nat.ne_of_gt (blk_lt BK.out)
  have n4_ := Aside0.mk (((World.ownsMap_made (H := Unit) w_ Tryd.prog 47 (plainElem Tryd.prog 2)).setCell (a := ⟨bt, 0, none⟩) hne (.map (some w_.heap.size))).mono (Nat.zero_le n))
  have n2_ := Aside0.mk (blk_put (tb_alloc BK.out (.map #[] 0)) 0 (.map (some w_.heap.size)) rfl)
  have n3_ := Aside0.mk ((Below.heap_setCell _ ⟨bt, 0, none⟩ (.map (some w_.heap.size)) gc HNE.out).trans (tb_alloc BX.out (.map #[] 0)))
  have HBB := Aside0.mk (show base ≤ w_.heap.size from Nat.le_trans HBS.out (below_size HB.out))
  have n1_ := Aside0.mk ((((HB.out.mono HBS.out).alloc HBB.out (.map #[] 0)).setCell (p := ⟨bt, 0, none⟩) HBT.out (.map (some w_.heap.size))))
  have HNB := Aside0.mk hne
  have HGB := Aside0.mk (Nat.ne_of_lt (blk_lt BX.out))
  clear HB BK BX k0 k1 k2 f2 kA fA hne
  have HB := n1_
  have BK := n2_
  have BX := n3_
  have HO := n4_
  clear n1_ n2_ n3_ n4_
  generalize (w_.alloc (.map #[] 0)).setCell ⟨bt, 0, none⟩ (.map (some w_.heap.size)) = w5 at HB BK BX HO ⊢
  generalize w_.heap.size = b at HB BK BX HO HBB HNB HGB ⊢
  have HT := Aside0.mk (fun s m (h : rg16 s m) => show (DataW.map (H := Unit) []).atKey (ck s m) (.lit (.int .i64 0)) = .lit (.int .i64 (T s m)) by rw [HT0.out s m h]; exact atKey_none s m)
  have HIM := Aside0.mk HO.out.isMap
  refine start_ (n := 7) (S := fun w' => w'.cell? ⟨bt, 0, none⟩ = some (.map (some b)) ∧ w'.cell? ⟨gc, 0, none⟩ = some (.int .i64 s) ∧ w'.cell? ⟨gc, 1, none⟩ = some (.int .i64 m)) (ds := []) #[false, false, false, false, false, false, false] (by kernel_rfl) rfl rfl ⟨(blk_cell BK.out 0).trans rfl, (blk_cell BX.out 0).trans rfl, (blk_cell BX.out 1).trans rfl⟩ (fun hHeld => ?_)
  have n1_ := Aside0.mk (Below.drew HB.out)
  have n2_ := Aside0.mk (blk_drew BK.out)
  have n3_ := Aside0.mk (blk_drew BX.out)
  have n4_ := Aside0.mk HO.out.drew
  clear HB BK BX HO
  have HB := n1_
  have BK := n2_
  have BX := n3_
  have HO := n4_
  clear n1_ n2_ n3_ n4_
  generalize w5.drew = w6 at HB BK BX HO hHeld ⊢
  refine pure_ (i := 0) (N := some 37) (v := ?_) (a' := ?_) #[true, false, false, false, false, false, false] rfl rfl (by kernel_rfl) (fun _ _ _ h => h) (Or.inl ⟨by rfl, ?_⟩) ?_ ?_
  rotate_left
  · intro w'
    go_simp
    with_reducible rfl
  rotate_left
  · simp only [Act.put, List.setIfInBounds_toArray, List.set_cons_zero, List.set_cons_succ, i64_w, i32_w]
    rfl
  refine pure_ (i := 1) (N := some 38) (v := ?_) (a' := ?_) #[true, true, false, false, false, false, false] rfl rfl (by kernel_rfl) (fun _ _ _ h => h) (Or.inl ⟨by rfl, ?_⟩) ?_ ?_
  rotate_left
  · intro w'
    go_simp
    with_reducible rfl
  rotate_left
  · simp only [Act.put, List.setIfInBounds_toArray, List.set_cons_zero, List.set_cons_succ, i64_w, i32_w]
    rfl
  refine pure_ (i := 2) (N := some 39) (v := ?_) (a' := ?_) #[true, true, true, false, false, false, false] rfl rfl (by kernel_rfl) (fun _ _ _ h => h) (Or.inl ⟨by rfl, ?_⟩) ?_ ?_
  rotate_left
  · intro w'
    go_simp
    with_reducible rfl
  rotate_left
  · simp only [Act.put, List.setIfInBounds_toArray, List.set_cons_zero, List.set_cons_succ, i64_w, i32_w]
    rfl
  refine take_ (i := 3) (N := some 40) (v := ?_) (a' := ?_) #[true, true, true, true, false, false, false] rfl rfl (by kernel_rfl) (fun _ _ _ h => h) (Or.inl ⟨by rfl, ?_⟩) hHeld ?_ ?_
  rotate_left
  · intro w' ⟨s0, s1, s2⟩
    go_simp
    with_reducible rfl
  rotate_left
  · simp only [Act.put, List.setIfInBounds_toArray, List.set_cons_zero, List.set_cons_succ, i64_w, i32_w]
    rfl
  refine take_ (i := 4) (N := some 41) (v := ?_) (a' := ?_) #[true, true, true, true, true, false, false] rfl rfl (by kernel_rfl) (fun _ _ _ h => h) (Or.inl ⟨by rfl, ?_⟩) hHeld ?_ ?_
  rotate_left
  · intro w' ⟨s0, s1, s2⟩
    go_simp
    with_reducible rfl
  rotate_left
  · simp only [Act.put, List.setIfInBounds_toArray, List.set_cons_zero, List.set_cons_succ, i64_w, i32_w]
    rfl
  refine pure_ (i := 5) (N := some 42) (v := ?_) (a' := ?_) #[true, true, true, true, true, true, false] rfl rfl (by kernel_rfl) (fun _ _ _ h => h) (Or.inl ⟨by rfl, ?_⟩) ?_ ?_
  rotate_left
  · intro w'
    go_simp
    with_reducible rfl
  rotate_left
  · simp only [Act.put, List.setIfInBounds_toArray, List.set_cons_zero, List.set_cons_succ, i64_w, i32_w]
    rfl
  obtain ⟨w7, hrun, hown, hturn⟩ := HO.out.store cellKeyed Tryd.underlying31 (room HN.out) (ck_key s m HR.out) (plainElem_int Tryd.underlying2 (wfv HV.out))
  refine one_ (i := 6) (N := none) #[true, true, true, true, true, true, true] rfl rfl (by kernel_rfl) (by decide) (fun K hK => ?_)
  refine skip_ (w1 := w7) (by rfl) rfl ?_ ?_
  · go_simp
    first | done | exact hrun | (rw [hrun]; rfl)
  have n2_ := Aside0.mk (turn_blk hturn BK.out HNB.out.symm)
  have n3_ := Aside0.mk (turn_blk hturn BX.out HGB.out)
  have n1_ := Aside0.mk (HB.out.grown hturn.grown (Nat.le_of_lt (Nat.lt_of_le_of_lt HBB.out HO.out.lt)) (fun k e => by cases e; exact HBB.out))
  have n4_ := Aside0.mk hown
  clear HB BK BX HO hHeld hrun hown hturn
  have HB := n1_
  have BK := n2_
  have BX := n3_
  have HO := n4_
  clear n1_ n2_ n3_ n4_
  refine hK.out _ _ ⟨(blk_cell BK.out 0).trans rfl, (blk_cell BX.out 0).trans rfl, (blk_cell BX.out 1).trans rfl⟩ (fun hHeld => ?_)
  clear hK K hHeld
  refine done_ (by kernel_rfl) ?_
  by_cases hv0 : v = 0
  · have cb3 : decide (v = 0) = true := decide_eq_true hv0
    subst hv0
    go_wp2
    refine start_ (n := 6) (S := fun w' => w'.cell? ⟨bt, 0, none⟩ = some (.map (some b)) ∧ w'.cell? ⟨gc, 0, none⟩ = some (.int .i64 s) ∧ w'.cell? ⟨gc, 1, none⟩ = some (.int .i64 m)) (ds := []) #[false, false, false, false, false, false] (by kernel_rfl) rfl rfl ⟨(blk_cell BK.out 0).trans rfl, (blk_cell BX.out 0).trans rfl, (blk_cell BX.out 1).trans rfl⟩ (fun hHeld => ?_)
    have n1_ := Aside0.mk (Below.drew HB.out)
    have n2_ := Aside0.mk (blk_drew BK.out)
    have n3_ := Aside0.mk (blk_drew BX.out)
    have n4_ := Aside0.mk HO.out.drew
    clear HB BK BX HO
    have HB := n1_
    have BK := n2_
    have BX := n3_
    have HO := n4_
    clear n1_ n2_ n3_ n4_
    generalize w7.drew = w8 at HB BK BX HO hHeld ⊢
    refine pure_ (i := 0) (N := some 45) (v := ?_) (a' := ?_) #[true, false, false, false, false, false] rfl rfl (by kernel_rfl) (fun _ _ _ h => h) (Or.inl ⟨by rfl, ?_⟩) ?_ ?_
    rotate_left
    · intro w'
      go_simp
      with_reducible rfl
    rotate_left
    · simp only [Act.put, List.setIfInBounds_toArray, List.set_cons_zero, List.set_cons_succ, i64_w, i32_w]
      rfl
    refine pure_ (i := 1) (N := some 46) (v := ?_) (a' := ?_) #[true, true, false, false, false, false] rfl rfl (by kernel_rfl) (fun _ _ _ h => h) (Or.inl ⟨by rfl, ?_⟩) ?_ ?_
    rotate_left
    · intro w'
      go_simp
      with_reducible rfl
    rotate_left
    · simp only [Act.put, List.setIfInBounds_toArray, List.set_cons_zero, List.set_cons_succ, i64_w, i32_w]
      rfl
    refine pure_ (i := 2) (N := some 47) (v := ?_) (a' := ?_) #[true, true, true, false, false, false] rfl rfl (by kernel_rfl) (fun _ _ _ h => h) (Or.inl ⟨by rfl, ?_⟩) ?_ ?_
    rotate_left
    · intro w'
      go_simp
      with_reducible rfl
    rotate_left
    · simp only [Act.put, List.setIfInBounds_toArray, List.set_cons_zero, List.set_cons_succ, i64_w, i32_w]
      rfl
    refine take_ (i := 3) (N := some 48) (v := ?_) (a' := ?_) #[true, true, true, true, false, false] rfl rfl (by kernel_rfl) (fun _ _ _ h => h) (Or.inl ⟨by rfl, ?_⟩) hHeld ?_ ?_
    rotate_left
    · intro w' ⟨s0, s1, s2⟩
      go_simp
      with_reducible rfl
    rotate_left
    · simp only [Act.put, List.setIfInBounds_toArray, List.set_cons_zero, List.set_cons_succ, i64_w, i32_w]
      rfl
    refine take_ (i := 4) (N := some 49) (v := ?_) (a' := ?_) #[true, true, true, true, true, false] rfl rfl (by kernel_rfl) (fun _ _ _ h => h) (Or.inl ⟨by rfl, ?_⟩) hHeld ?_ ?_
    rotate_left
    · intro w' ⟨s0, s1, s2⟩
      go_simp
      with_reducible rfl
    rotate_left
    · simp only [Act.put, List.setIfInBounds_toArray, List.set_cons_zero, List.set_cons_succ, i64_w, i32_w]
      rfl
    obtain ⟨w9, hrun, hown, hturn⟩ := HO.out.drop cellKeyed Tryd.underlying31 (ck_key s m HR.out) 0
    refine one_ (i := 5) (N := none) #[true, true, true, true, true, true] rfl rfl (by kernel_rfl) (by decide) (fun K hK => ?_)
    refine value_ (v := .tuple #[]) (w1 := w9) (by rfl) rfl ?_ ?_
    · go_simp
      first | done | exact hrun | (rw [hrun]; rfl)
    have n2_ := Aside0.mk (turn_blk hturn BK.out HNB.out.symm)
    have n3_ := Aside0.mk (turn_blk hturn BX.out HGB.out)
    have n1_ := Aside0.mk (HB.out.grown hturn.grown (Nat.le_of_lt (Nat.lt_of_le_of_lt HBB.out HO.out.lt)) (fun k e => by cases e; exact HBB.out))
    have n4_ := Aside0.mk hown
    clear HB BK BX HO hHeld hrun hown hturn
    have HB := n1_
    have BK := n2_
    have BX := n3_
    have HO := n4_
    clear n1_ n2_ n3_ n4_
    refine hK.out _ _ ⟨(blk_cell BK.out 0).trans rfl, (blk_cell BX.out 0).trans rfl, (blk_cell BX.out 1).trans rfl⟩ (fun hHeld => ?_)
    clear hK K hHeld
    refine done_ (by kernel_rfl) ?_
    go_wp2
    go_ret
    exact ⟨rfl, Or.inr ⟨b, _, BK.out, HBB.out, HNB.out, HO.out, fun s' m' h' => atKey_del0 s m (fun s' m' h' => atKey_upd HIM.out HT.out s m 0 HR.out s' m' h') HR.out s' m' h'⟩, HB.out⟩
  · have cb3 : decide (v = 0) = false := decide_eq_false hv0
    have cb4 : (v = 0) = False := eq_false hv0
    go_wp2
    go_ret
    exact ⟨rfl, Or.inr ⟨b, _, BK.out, HBB.out, HNB.out, HO.out, fun s' m' h' => atKey_upd HIM.out HT.out s m v HR.out s' m' h'⟩, HB.out⟩
set_option maxHeartbeats 8000000 in
set_option maxRecDepth 1000000 in
theorem Set.fullcase [Inhabited (Int → Addr)] (bt base n b : Nat) (D : DataW Unit) (T : Int → Int → Int) (s m v : Int) (w : World) (hG : GlobOK w) (hb0 : w.heap[bt]? = some (.cells #[.map (some b)] 33 (0, 0))) (hbb : base ≤ b) (hne : b ≠ bt) (ho : w.ownsMap Tryd.prog 47 (plainElem Tryd.prog 2) b n D) (hT : ∀ s m, rg16 s m → D.atKey (ck s m) (.lit (.int .i64 0)) = .lit (.int .i64 (T s m))) (hz : ¬ Go.Maps.size D = 0) (hbt : base ≤ bt) (hbase : base ≤ w.heap.size) (hn : n < 1000) (h : rg16 s m) (hv : amtB v = true) :
    Calls Tryd.prog 12 #[.pointer (some ⟨bt, 0, none⟩), .agg #[.int .i64 s, .int .i64 m], .int .i64 v] w fun e w' => e = .returned .nilIface ∧ TbM bt base (n + 1) (updT T s m v) w' ∧ Below base w w' := by
  have hu1 := Tryd.underlying47
  have hu2 := Tryd.underlying33
  have hu3 := Tryd.underlying31
  have HSC := Aside0.mk (scene_t s h.1)
  have HAM := Aside0.mk ((amountS_b v).trans (congrArg some hv))
  have HR := Aside0.mk h
  have HV := Aside0.mk hv
  have HBT := Aside0.mk hbt
  have HBS := Aside0.mk hbase
  have HN := Aside0.mk hn
  have HG := Aside0.mk hG
  have HB := Aside0.mk (Below.refl w.heap.size w)
  have cb0 : decide (m < 1) = false := decide_eq_false (by have := h.2; omega)
  have cb1 : decide (m > 32) = false := decide_eq_false (by have := h.2; omega)
  have cb2 : decide (32 < m) = false := decide_eq_false (by have := h.2; omega)
  have BK := Aside0.mk hb0
  have BK0 := Aside0.mk hb0
  have HO := Aside0.mk ho
  have HBB := Aside0.mk hbb
  have HNB := Aside0.mk hne
  have HBL := Aside0.mk ho.lt
  have HT := Aside0.mk hT
  have cz0 : decide ((Go.Maps.size D : Int) = 0) = false := decide_eq_false (by omega)
  have cz1 : ((Go.Maps.size D : Int) = 0) = False := eq_false (by omega)
  have cz2 : (Go.Maps.size D = 0) = False := eq_false hz
  have cz3 : ((Go.Maps.size D : Int) == 0) = false := beq_false_of_ne (by omega)
  clear hb0 hT hbb hne ho hz
  have k2 := (blk_cell BK.out 0).trans (show _ = some (.map (some b)) from rfl)
  have f2 := blk_frozen BK.out 0
  have kA := (blk_cell (tb_alloc BK.out (.map #[] 0)) 0).trans (show _ = some (.map (some b)) from rfl)
  have fA := blk_frozen (tb_alloc BK.out (.map #[] 0)) 0
  clear h hv hbt hbase hn hG
  have hmm := @run_makeMap Tryd.prog
  go_enter Tryd.func12, Tryd.ntmps12
  go_wp2_with (first
    | ((with_reducible refine gate_dst (N := 4) rfl ?_); refine box_event ?hg (N := 4) ?hd (cs := #[.int .i64 s, .int .i64 m]) (t := 47) ?hr ?_; (case hd => rfl); (case hg => rfl); (case hr => first | (go_simp; done) | (go_simp; rfl)); intro gc hg_ w_ hbox hb; have HGC := Aside0.mk hg_; have BX := Aside0.mk hbox; have n_ := Aside0.mk (blk_below BK.out hb); clear BK; have BK := n_; clear n_; have n_ := Aside0.mk (own_below HO.out hb); clear HO; have HO := n_; clear n_; have n_ := Aside0.mk (below_step HB.out hb); clear HB; have HB := n_; clear n_ hb hbox hg_; clear k2 f2 kA fA; have k0 := (blk_cell BX.out 0).trans (show _ = some (.int .i64 s) from rfl); have k1 := (blk_cell BX.out 1).trans (show _ = some (.int .i64 m) from rfl); have k2 := (blk_cell BK.out 0).trans (show _ = some (.map (some b)) from rfl); have f2 := blk_frozen BK.out 0; have kA := (blk_cell (tb_alloc BK.out (.map #[] 0)) 0).trans (show _ = some (.map (some b)) from rfl); have fA := blk_frozen (tb_alloc BK.out (.map #[] 0)) 0)
    | (go_at_call 28; have hN := fun W_ => stress_scene.calls s true W_ HSC.out; (with_reducible refine (hN _).mono ?_); clear hN; rintro e w_ ⟨rfl, hd⟩; have hb := hd.below; clear k0 k1 k2 f2 kA fA; have n0_ := Aside0.mk (blk_below BK.out hb); have n1_ := Aside0.mk (blk_below BX.out hb); have n2_ := Aside0.mk (below_step HB.out hb); have n3_ := Aside0.mk (own_below HO.out hb); clear BK BX HB HO; have BK := n0_; have BX := n1_; have HB := n2_; have HO := n3_; clear n0_ n1_ n2_ n3_; have k0 := (blk_cell BX.out 0).trans (show _ = some (.int .i64 s) from rfl); have k1 := (blk_cell BX.out 1).trans (show _ = some (.int .i64 m) from rfl); have k2 := (blk_cell BK.out 0).trans (show _ = some (.map (some b)) from rfl); have f2 := blk_frozen BK.out 0; have kA := (blk_cell (tb_alloc BK.out (.map #[] 0)) 0).trans (show _ = some (.map (some b)) from rfl); have fA := blk_frozen (tb_alloc BK.out (.map #[] 0)) 0; clear hb hd)
    | (go_at_call 29; have hN := fun W_ => stress_amount.calls v true W_ HAM.out; (with_reducible refine (hN _).mono ?_); clear hN; rintro e w_ ⟨rfl, hd⟩; have hb := hd.below; clear k0 k1 k2 f2 kA fA; have n0_ := Aside0.mk (blk_below BK.out hb); have n1_ := Aside0.mk (blk_below BX.out hb); have n2_ := Aside0.mk (below_step HB.out hb); have n3_ := Aside0.mk (own_below HO.out hb); clear BK BX HB HO; have BK := n0_; have BX := n1_; have HB := n2_; have HO := n3_; clear n0_ n1_ n2_ n3_; have k0 := (blk_cell BX.out 0).trans (show _ = some (.int .i64 s) from rfl); have k1 := (blk_cell BX.out 1).trans (show _ = some (.int .i64 m) from rfl); have k2 := (blk_cell BK.out 0).trans (show _ = some (.map (some b)) from rfl); have f2 := blk_frozen BK.out 0; have kA := (blk_cell (tb_alloc BK.out (.map #[] 0)) 0).trans (show _ = some (.map (some b)) from rfl); have fA := blk_frozen (tb_alloc BK.out (.map #[] 0)) 0; clear hb hd)
    | (at_len; refine wpList_len_own _ rfl _ 31 rfl 47 2 Tryd.underlying31 (plainElem Tryd.prog 2) b n D rfl HO.out ?_))
  clear hmm k0 k1 k2 f2 kA fA
  have HGB := Aside0.mk (show gc ≠ b by have := HBL.out; have := HGC.out; omega)
  have n_ := Aside0.mk (HB.out.mono HBS.out)
  clear HB
  have HB := n_
  clear n_
  have HIM := Aside0.mk HO.out.isMap
  refine start_ (n := 7) (S := fun w' => w'.cell? ⟨bt, 0, none⟩ = some (.map (some b)) ∧ w'.cell? ⟨gc, 0, none⟩ = some (.int .i64 s) ∧ w'.cell? ⟨gc, 1, none⟩ = some (.int .i64 m)) (ds := []) #[false, false, false, false, false, false, false] (by kernel_rfl) rfl rfl ⟨(blk_cell BK.out 0).trans rfl, (blk_cell BX.out 0).trans rfl, (blk_cell BX.out 1).trans rfl⟩ (fun hHeld => ?_)
  have n1_ := Aside0.mk (Below.drew HB.out)
  have n2_ := Aside0.mk (blk_drew BK.out)
  have n3_ := Aside0.mk (blk_drew BX.out)
  have n4_ := Aside0.mk HO.out.drew
  clear HB BK BX HO
  have HB := n1_
  have BK := n2_
  have BX := n3_
  have HO := n4_
  clear n1_ n2_ n3_ n4_
  generalize w_.drew = w6 at HB BK BX HO hHeld ⊢
  refine pure_ (i := 0) (N := some 37) (v := ?_) (a' := ?_) #[true, false, false, false, false, false, false] rfl rfl (by kernel_rfl) (fun _ _ _ h => h) (Or.inl ⟨by rfl, ?_⟩) ?_ ?_
  rotate_left
  · intro w'
    go_simp
    with_reducible rfl
  rotate_left
  · simp only [Act.put, List.setIfInBounds_toArray, List.set_cons_zero, List.set_cons_succ, i64_w, i32_w]
    rfl
  refine pure_ (i := 1) (N := some 38) (v := ?_) (a' := ?_) #[true, true, false, false, false, false, false] rfl rfl (by kernel_rfl) (fun _ _ _ h => h) (Or.inl ⟨by rfl, ?_⟩) ?_ ?_
  rotate_left
  · intro w'
    go_simp
    with_reducible rfl
  rotate_left
  · simp only [Act.put, List.setIfInBounds_toArray, List.set_cons_zero, List.set_cons_succ, i64_w, i32_w]
    rfl
  refine pure_ (i := 2) (N := some 39) (v := ?_) (a' := ?_) #[true, true, true, false, false, false, false] rfl rfl (by kernel_rfl) (fun _ _ _ h => h) (Or.inl ⟨by rfl, ?_⟩) ?_ ?_
  rotate_left
  · intro w'
    go_simp
    with_reducible rfl
  rotate_left
  · simp only [Act.put, List.setIfInBounds_toArray, List.set_cons_zero, List.set_cons_succ, i64_w, i32_w]
    rfl
  refine take_ (i := 3) (N := some 40) (v := ?_) (a' := ?_) #[true, true, true, true, false, false, false] rfl rfl (by kernel_rfl) (fun _ _ _ h => h) (Or.inl ⟨by rfl, ?_⟩) hHeld ?_ ?_
  rotate_left
  · intro w' ⟨s0, s1, s2⟩
    go_simp
    with_reducible rfl
  rotate_left
  · simp only [Act.put, List.setIfInBounds_toArray, List.set_cons_zero, List.set_cons_succ, i64_w, i32_w]
    rfl
  refine take_ (i := 4) (N := some 41) (v := ?_) (a' := ?_) #[true, true, true, true, true, false, false] rfl rfl (by kernel_rfl) (fun _ _ _ h => h) (Or.inl ⟨by rfl, ?_⟩) hHeld ?_ ?_
  rotate_left
  · intro w' ⟨s0, s1, s2⟩
    go_simp
    with_reducible rfl
  rotate_left
  · simp only [Act.put, List.setIfInBounds_toArray, List.set_cons_zero, List.set_cons_succ, i64_w, i32_w]
    rfl
  refine pure_ (i := 5) (N := some 42) (v := ?_) (a' := ?_) #[true, true, true, true, true, true, false] rfl rfl (by kernel_rfl) (fun _ _ _ h => h) (Or.inl ⟨by rfl, ?_⟩) ?_ ?_
  rotate_left
  · intro w'
    go_simp
    with_reducible rfl
  rotate_left
  · simp only [Act.put, List.setIfInBounds_toArray, List.set_cons_zero, List.set_cons_succ, i64_w, i32_w]
    rfl
  obtain ⟨w7, hrun, hown, hturn⟩ := HO.out.store cellKeyed Tryd.underlying31 (room HN.out) (ck_key s m HR.out) (plainElem_int Tryd.underlying2 (wfv HV.out))
  refine one_ (i := 6) (N := none) #[true, true, true, true, true, true, true] rfl rfl (by kernel_rfl) (by decide) (fun K hK => ?_)
  refine skip_ (w1 := w7) (by rfl) rfl ?_ ?_
  · go_simp
    first | done | exact hrun | (rw [hrun]; rfl)
  have n2_ := Aside0.mk (turn_blk hturn BK.out HNB.out.symm)
  have n3_ := Aside0.mk (turn_blk hturn BX.out HGB.out)
  have n1_ := Aside0.mk (HB.out.grown hturn.grown (Nat.le_of_lt (Nat.lt_of_le_of_lt HBB.out HO.out.lt)) (fun k e => by cases e; exact HBB.out))
  have n4_ := Aside0.mk hown
  clear HB BK BX HO hHeld hrun hown hturn
  have HB := n1_
  have BK := n2_
  have BX := n3_
  have HO := n4_
  clear n1_ n2_ n3_ n4_
  refine hK.out _ _ ⟨(blk_cell BK.out 0).trans rfl, (blk_cell BX.out 0).trans rfl, (blk_cell BX.out 1).trans rfl⟩ (fun hHeld => ?_)
  clear hK K hHeld
  refine done_ (by kernel_rfl) ?_
  by_cases hv0 : v = 0
  · have cb3 : decide (v = 0) = true := decide_eq_true hv0
    subst hv0
    go_wp2
    refine start_ (n := 6) (S := fun w' => w'.cell? ⟨bt, 0, none⟩ = some (.map (some b)) ∧ w'.cell? ⟨gc, 0, none⟩ = some (.int .i64 s) ∧ w'.cell? ⟨gc, 1, none⟩ = some (.int .i64 m)) (ds := []) #[false, false, false, false, false, false] (by kernel_rfl) rfl rfl ⟨(blk_cell BK.out 0).trans rfl, (blk_cell BX.out 0).trans rfl, (blk_cell BX.out 1).trans rfl⟩ (fun hHeld => ?_)
    have n1_ := Aside0.mk (Below.drew HB.out)
    have n2_ := Aside0.mk (blk_drew BK.out)
    have n3_ := Aside0.mk (blk_drew BX.out)
    have n4_ := Aside0.mk HO.out.drew
    clear HB BK BX HO
    have HB := n1_
    have BK := n2_
    have BX := n3_
    have HO := n4_
    clear n1_ n2_ n3_ n4_
    generalize w7.drew = w8 at HB BK BX HO hHeld ⊢
    refine pure_ (i := 0) (N := some 45) (v := ?_) (a' := ?_) #[true, false, false, false, false, false] rfl rfl (by kernel_rfl) (fun _ _ _ h => h) (Or.inl ⟨by rfl, ?_⟩) ?_ ?_
    rotate_left
    · intro w'
      go_simp
      with_reducible rfl
    rotate_left
    · simp only [Act.put, List.setIfInBounds_toArray, List.set_cons_zero, List.set_cons_succ, i64_w, i32_w]
      rfl
    refine pure_ (i := 1) (N := some 46) (v := ?_) (a' := ?_) #[true, true, false, false, false, false] rfl rfl (by kernel_rfl) (fun _ _ _ h => h) (Or.inl ⟨by rfl, ?_⟩) ?_ ?_
    rotate_left
    · intro w'
      go_simp
      with_reducible rfl
    rotate_left
    · simp only [Act.put, List.setIfInBounds_toArray, List.set_cons_zero, List.set_cons_succ, i64_w, i32_w]
      rfl
    refine pure_ (i := 2) (N := some 47) (v := ?_) (a' := ?_) #[true, true, true, false, false, false] rfl rfl (by kernel_rfl) (fun _ _ _ h => h) (Or.inl ⟨by rfl, ?_⟩) ?_ ?_
    rotate_left
    · intro w'
      go_simp
      with_reducible rfl
    rotate_left
    · simp only [Act.put, List.setIfInBounds_toArray, List.set_cons_zero, List.set_cons_succ, i64_w, i32_w]
      rfl
    refine take_ (i := 3) (N := some 48) (v := ?_) (a' := ?_) #[true, true, true, true, false, false] rfl rfl (by kernel_rfl) (fun _ _ _ h => h) (Or.inl ⟨by rfl, ?_⟩) hHeld ?_ ?_
    rotate_left
    · intro w' ⟨s0, s1, s2⟩
      go_simp
      with_reducible rfl
    rotate_left
    · simp only [Act.put, List.setIfInBounds_toArray, List.set_cons_zero, List.set_cons_succ, i64_w, i32_w]
      rfl
    refine take_ (i := 4) (N := some 49) (v := ?_) (a' := ?_) #[true, true, true, true, true, false] rfl rfl (by kernel_rfl) (fun _ _ _ h => h) (Or.inl ⟨by rfl, ?_⟩) hHeld ?_ ?_
    rotate_left
    · intro w' ⟨s0, s1, s2⟩
      go_simp
      with_reducible rfl
    rotate_left
    · simp only [Act.put, List.setIfInBounds_toArray, List.set_cons_zero, List.set_cons_succ, i64_w, i32_w]
      rfl
    obtain ⟨w9, hrun, hown, hturn⟩ := HO.out.drop cellKeyed Tryd.underlying31 (ck_key s m HR.out) 0
    refine one_ (i := 5) (N := none) #[true, true, true, true, true, true] rfl rfl (by kernel_rfl) (by decide) (fun K hK => ?_)
    refine value_ (v := .tuple #[]) (w1 := w9) (by rfl) rfl ?_ ?_
    · go_simp
      first | done | exact hrun | (rw [hrun]; rfl)
    have n2_ := Aside0.mk (turn_blk hturn BK.out HNB.out.symm)
    have n3_ := Aside0.mk (turn_blk hturn BX.out HGB.out)
    have n1_ := Aside0.mk (HB.out.grown hturn.grown (Nat.le_of_lt (Nat.lt_of_le_of_lt HBB.out HO.out.lt)) (fun k e => by cases e; exact HBB.out))
    have n4_ := Aside0.mk hown
    clear HB BK BX HO hHeld hrun hown hturn
    have HB := n1_
    have BK := n2_
    have BX := n3_
    have HO := n4_
    clear n1_ n2_ n3_ n4_
    refine hK.out _ _ ⟨(blk_cell BK.out 0).trans rfl, (blk_cell BX.out 0).trans rfl, (blk_cell BX.out 1).trans rfl⟩ (fun hHeld => ?_)
    clear hK K hHeld
    refine done_ (by kernel_rfl) ?_
    go_wp2
    go_ret
    exact ⟨rfl, Or.inr ⟨b, _, BK.out, HBB.out, HNB.out, HO.out, fun s' m' h' => atKey_del0 s m (fun s' m' h' => atKey_upd HIM.out HT.out s m 0 HR.out s' m' h') HR.out s' m' h'⟩, HB.out⟩
  · have cb3 : decide (v = 0) = false := decide_eq_false hv0
    have cb4 : (v = 0) = False := eq_false hv0
    go_wp2
    go_ret
    exact ⟨rfl, Or.inr ⟨b, _, BK.out, HBB.out, HNB.out, HO.out, fun s' m' h' => atKey_upd HIM.out HT.out s m v HR.out s' m' h'⟩, HB.out⟩
set_option maxHeartbeats 8000000 in
set_option maxRecDepth 1000000 in
theorem Set.emptycase [Inhabited (Int → Addr)] (bt base n b : Nat) (D : DataW Unit) (T : Int → Int → Int) (s m v : Int) (w : World) (hG : GlobOK w) (hb0 : w.heap[bt]? = some (.cells #[.map (some b)] 33 (0, 0))) (hbb : base ≤ b) (hne : b ≠ bt) (ho : w.ownsMap Tryd.prog 47 (plainElem Tryd.prog 2) b n D) (hT : ∀ s m, rg16 s m → D.atKey (ck s m) (.lit (.int .i64 0)) = .lit (.int .i64 (T s m))) (hz : Go.Maps.size D = 0) (hbt : base ≤ bt) (hbase : base ≤ w.heap.size) (hn : n < 1000) (h : rg16 s m) (hv : amtB v = true) :
    Calls Tryd.prog 12 #[.pointer (some ⟨bt, 0, none⟩), .agg #[.int .i64 s, .int .i64 m], .int .i64 v] w fun e w' => e = .returned .nilIface ∧ TbM bt base (n + 1) (updT T s m v) w' ∧ Below base w w' := by
  have hu1 := Tryd.underlying47
  have hu2 := Tryd.underlying33
  have hu3 := Tryd.underlying31
  have HSC := Aside0.mk (scene_t s h.1)
  have HAM := Aside0.mk ((amountS_b v).trans (congrArg some hv))
  have HR := Aside0.mk h
  have HV := Aside0.mk hv
  have HBT := Aside0.mk hbt
  have HBS := Aside0.mk hbase
  have HN := Aside0.mk hn
  have HG := Aside0.mk hG
  have HB := Aside0.mk (Below.refl w.heap.size w)
  have cb0 : decide (m < 1) = false := decide_eq_false (by have := h.2; omega)
  have cb1 : decide (m > 32) = false := decide_eq_false (by have := h.2; omega)
  have cb2 : decide (32 < m) = false := decide_eq_false (by have := h.2; omega)
  have BK := Aside0.mk hb0
  have BK0 := Aside0.mk hb0
  have HO := Aside0.mk ho
  have HT0 := Aside0.mk (fun s m (h : rg16 s m) => show T s m = 0 by have e := hT s m h; rw [nil_size ho.isMap hz, atKey_none] at e; simp at e; exact e.symm)
  have cz0 : decide ((Go.Maps.size D : Int) = 0) = true := decide_eq_true (by omega)
  have cz1 : ((Go.Maps.size D : Int) = 0) = True := eq_true (by omega)
  have cz2 : (Go.Maps.size D = 0) = True := eq_true hz
  have cz3 : ((Go.Maps.size D : Int) == 0) = true := beq_iff_eq.mpr (by omega)
  clear hb0 hT hbb hne ho hz
  have k2 := (blk_cell BK.out 0).trans (show _ = some (.map (some b)) from rfl)
  have f2 := blk_frozen BK.out 0
  have kA := (blk_cell (tb_alloc BK.out (.map #[] 0)) 0).trans (show _ = some (.map (some b)) from rfl)
  have fA := blk_frozen (tb_alloc BK.out (.map #[] 0)) 0
  clear h hv hbt hbase hn hG
  have hmm := @run_makeMap Tryd.prog
  go_enter Tryd.func12, Tryd.ntmps12
  go_wp2_with (first
    | ((with_reducible refine gate_dst (N := 4) rfl ?_); refine box_event ?hg (N := 4) ?hd (cs := #[.int .i64 s, .int .i64 m]) (t := 47) ?hr ?_; (case hd => rfl); (case hg => rfl); (case hr => first | (go_simp; done) | (go_simp; rfl)); intro gc hg_ w_ hbox hb; have HGC := Aside0.mk hg_; have BX := Aside0.mk hbox; have n_ := Aside0.mk (blk_below BK.out hb); clear BK; have BK := n_; clear n_; have n_ := Aside0.mk (own_below HO.out hb); clear HO; have HO := n_; clear n_; have n_ := Aside0.mk (below_step HB.out hb); clear HB; have HB := n_; clear n_ hb hbox hg_; clear k2 f2 kA fA; have k0 := (blk_cell BX.out 0).trans (show _ = some (.int .i64 s) from rfl); have k1 := (blk_cell BX.out 1).trans (show _ = some (.int .i64 m) from rfl); have k2 := (blk_cell BK.out 0).trans (show _ = some (.map (some b)) from rfl); have f2 := blk_frozen BK.out 0; have kA := (blk_cell (tb_alloc BK.out (.map #[] 0)) 0).trans (show _ = some (.map (some b)) from rfl); have fA := blk_frozen (tb_alloc BK.out (.map #[] 0)) 0)
    | (go_at_call 28; have hN := fun W_ => stress_scene.calls s true W_ HSC.out; (with_reducible refine (hN _).mono ?_); clear hN; rintro e w_ ⟨rfl, hd⟩; have hb := hd.below; clear k0 k1 k2 f2 kA fA; have n0_ := Aside0.mk (blk_below BK.out hb); have n1_ := Aside0.mk (blk_below BX.out hb); have n2_ := Aside0.mk (below_step HB.out hb); have n3_ := Aside0.mk (own_below HO.out hb); clear BK BX HB HO; have BK := n0_; have BX := n1_; have HB := n2_; have HO := n3_; clear n0_ n1_ n2_ n3_; have k0 := (blk_cell BX.out 0).trans (show _ = some (.int .i64 s) from rfl); have k1 := (blk_cell BX.out 1).trans (show _ = some (.int .i64 m) from rfl); have k2 := (blk_cell BK.out 0).trans (show _ = some (.map (some b)) from rfl); have f2 := blk_frozen BK.out 0; have kA := (blk_cell (tb_alloc BK.out (.map #[] 0)) 0).trans (show _ = some (.map (some b)) from rfl); have fA := blk_frozen (tb_alloc BK.out (.map #[] 0)) 0; clear hb hd)
    | (go_at_call 29; have hN := fun W_ => stress_amount.calls v true W_ HAM.out; (with_reducible refine (hN _).mono ?_); clear hN; rintro e w_ ⟨rfl, hd⟩; have hb := hd.below; clear k0 k1 k2 f2 kA fA; have n0_ := Aside0.mk (blk_below BK.out hb); have n1_ := Aside0.mk (blk_below BX.out hb); have n2_ := Aside0.mk (below_step HB.out hb); have n3_ := Aside0.mk (own_below HO.out hb); clear BK BX HB HO; have BK := n0_; have BX := n1_; have HB := n2_; have HO := n3_; clear n0_ n1_ n2_ n3_; have k0 := (blk_cell BX.out 0).trans (show _ = some (.int .i64 s) from rfl); have k1 := (blk_cell BX.out 1).trans (show _ = some (.int .i64 m) from rfl); have k2 := (blk_cell BK.out 0).trans (show _ = some (.map (some b)) from rfl); have f2 := blk_frozen BK.out 0; have kA := (blk_cell (tb_alloc BK.out (.map #[] 0)) 0).trans (show _ = some (.map (some b)) from rfl); have fA := blk_frozen (tb_alloc BK.out (.map #[] 0)) 0; clear hb hd)
    | (at_len; refine wpList_len_own _ rfl _ 31 rfl 47 2 Tryd.underlying31 (plainElem Tryd.prog 2) b n D rfl HO.out ?_))
  clear hmm HO
  have HNE := Aside0.mk (show gc ≠ bt by have := blk_lt BK0.out; have := HGC.out; omega)
  have hne := Nat.ne_of_gt (blk_lt BK.out)
  have n4_ := Aside0.mk (((World.ownsMap_made (H := Unit) w_ Tryd.prog 47 (plainElem Tryd.prog 2)).setCell (a := ⟨bt, 0, none⟩) hne (.map (some w_.heap.size))).mono (Nat.zero_le n))
  have n2_ := Aside0.mk (blk_put (tb_alloc BK.out (.map #[] 0)) 0 (.map (some w_.heap.size)) rfl)
  have n3_ := Aside0.mk ((Below.heap_setCell _ ⟨bt, 0, none⟩ (.map (some w_.heap.size)) gc HNE.out).trans (tb_alloc BX.out (.map #[] 0)))
  have HBB := Aside0.mk (show base ≤ w_.heap.size from Nat.le_trans HBS.out (below_size HB.out))
  have n1_ := Aside0.mk ((((HB.out.mono HBS.out).alloc HBB.out (.map #[] 0)).setCell (p := ⟨bt, 0, none⟩) HBT.out (.map (some w_.heap.size))))
  have HNB := Aside0.mk hne
  have HGB := Aside0.mk (Nat.ne_of_lt (blk_lt BX.out))
  clear HB BK BX k0 k1 k2 f2 kA fA hne
  have HB := n1_
  have BK := n2_
  have BX := n3_
  have HO := n4_
  clear n1_ n2_ n3_ n4_
  generalize (w_.alloc (.map #[] 0)).setCell ⟨bt, 0, none⟩ (.map (some w_.heap.size)) = w5 at HB BK BX HO ⊢
  generalize w_.heap.size = b at HB BK BX HO HBB HNB HGB ⊢
  have HT := Aside0.mk (fun s m (h : rg16 s m) => show (DataW.map (H := Unit) []).atKey (ck s m) (.lit (.int .i64 0)) = .lit (.int .i64 (T s m)) by rw [HT0.out s m h]; exact atKey_none s m)
  have HIM := Aside0.mk HO.out.isMap
  refine start_ (n := 7) (S := fun w' => w'.cell? ⟨bt, 0, none⟩ = some (.map (some b)) ∧ w'.cell? ⟨gc, 0, none⟩ = some (.int .i64 s) ∧ w'.cell? ⟨gc, 1, none⟩ = some (.int .i64 m)) (ds := []) #[false, false, false, false, false, false, false] (by kernel_rfl) rfl rfl ⟨(blk_cell BK.out 0).trans rfl, (blk_cell BX.out 0).trans rfl, (blk_cell BX.out 1).trans rfl⟩ (fun hHeld => ?_)
  have n1_ := Aside0.mk (Below.drew HB.out)
  have n2_ := Aside0.mk (blk_drew BK.out)
  have n3_ := Aside0.mk (blk_drew BX.out)
  have n4_ := Aside0.mk HO.out.drew
  clear HB BK BX HO
  have HB := n1_
  have BK := n2_
  have BX := n3_
  have HO := n4_
  clear n1_ n2_ n3_ n4_
  generalize w5.drew = w6 at HB BK BX HO hHeld ⊢
  refine pure_ (i := 0) (N := some 37) (v := ?_) (a' := ?_) #[true, false, false, false, false, false, false] rfl rfl (by kernel_rfl) (fun _ _ _ h => h) (Or.inl ⟨by rfl, ?_⟩) ?_ ?_
  rotate_left
  · intro w'
    go_simp
    with_reducible rfl
  rotate_left
  · simp only [Act.put, List.setIfInBounds_toArray, List.set_cons_zero, List.set_cons_succ, i64_w, i32_w]
    rfl
  refine pure_ (i := 1) (N := some 38) (v := ?_) (a' := ?_) #[true, true, false, false, false, false, false] rfl rfl (by kernel_rfl) (fun _ _ _ h => h) (Or.inl ⟨by rfl, ?_⟩) ?_ ?_
  rotate_left
  · intro w'
    go_simp
    with_reducible rfl
  rotate_left
  · simp only [Act.put, List.setIfInBounds_toArray, List.set_cons_zero, List.set_cons_succ, i64_w, i32_w]
    rfl
  refine pure_ (i := 2) (N := some 39) (v := ?_) (a' := ?_) #[true, true, true, false, false, false, false] rfl rfl (by kernel_rfl) (fun _ _ _ h => h) (Or.inl ⟨by rfl, ?_⟩) ?_ ?_
  rotate_left
  · intro w'
    go_simp
    with_reducible rfl
  rotate_left
  · simp only [Act.put, List.setIfInBounds_toArray, List.set_cons_zero, List.set_cons_succ, i64_w, i32_w]
    rfl
  refine take_ (i := 3) (N := some 40) (v := ?_) (a' := ?_) #[true, true, true, true, false, false, false] rfl rfl (by kernel_rfl) (fun _ _ _ h => h) (Or.inl ⟨by rfl, ?_⟩) hHeld ?_ ?_
  rotate_left
  · intro w' ⟨s0, s1, s2⟩
    go_simp
    with_reducible rfl
  rotate_left
  · simp only [Act.put, List.setIfInBounds_toArray, List.set_cons_zero, List.set_cons_succ, i64_w, i32_w]
    rfl
  refine take_ (i := 4) (N := some 41) (v := ?_) (a' := ?_) #[true, true, true, true, true, false, false] rfl rfl (by kernel_rfl) (fun _ _ _ h => h) (Or.inl ⟨by rfl, ?_⟩) hHeld ?_ ?_
  rotate_left
  · intro w' ⟨s0, s1, s2⟩
    go_simp
    with_reducible rfl
  rotate_left
  · simp only [Act.put, List.setIfInBounds_toArray, List.set_cons_zero, List.set_cons_succ, i64_w, i32_w]
    rfl
  refine pure_ (i := 5) (N := some 42) (v := ?_) (a' := ?_) #[true, true, true, true, true, true, false] rfl rfl (by kernel_rfl) (fun _ _ _ h => h) (Or.inl ⟨by rfl, ?_⟩) ?_ ?_
  rotate_left
  · intro w'
    go_simp
    with_reducible rfl
  rotate_left
  · simp only [Act.put, List.setIfInBounds_toArray, List.set_cons_zero, List.set_cons_succ, i64_w, i32_w]
    rfl
  obtain ⟨w7, hrun, hown, hturn⟩ := HO.out.store cellKeyed Tryd.underlying31 (room HN.out) (ck_key s m HR.out) (plainElem_int Tryd.underlying2 (wfv HV.out))
  refine one_ (i := 6) (N := none) #[true, true, true, true, true, true, true] rfl rfl (by kernel_rfl) (by decide) (fun K hK => ?_)
  refine skip_ (w1 := w7) (by rfl) rfl ?_ ?_
  · go_simp
    first | done | exact hrun | (rw [hrun]; rfl)
  have n2_ := Aside0.mk (turn_blk hturn BK.out HNB.out.symm)
  have n3_ := Aside0.mk (turn_blk hturn BX.out HGB.out)
  have n1_ := Aside0.mk (HB.out.grown hturn.grown (Nat.le_of_lt (Nat.lt_of_le_of_lt HBB.out HO.out.lt)) (fun k e => by cases e; exact HBB.out))
  have n4_ := Aside0.mk hown
  clear HB BK BX HO hHeld hrun hown hturn
  have HB := n1_
  have BK := n2_
  have BX := n3_
  have HO := n4_
  clear n1_ n2_ n3_ n4_
  refine hK.out _ _ ⟨(blk_cell BK.out 0).trans rfl, (blk_cell BX.out 0).trans rfl, (blk_cell BX.out 1).trans rfl⟩ (fun hHeld => ?_)
  clear hK K hHeld
  refine done_ (by kernel_rfl) ?_
  by_cases hv0 : v = 0
  · have cb3 : decide (v = 0) = true := decide_eq_true hv0
    subst hv0
    go_wp2
    refine start_ (n := 6) (S := fun w' => w'.cell? ⟨bt, 0, none⟩ = some (.map (some b)) ∧ w'.cell? ⟨gc, 0, none⟩ = some (.int .i64 s) ∧ w'.cell? ⟨gc, 1, none⟩ = some (.int .i64 m)) (ds := []) #[false, false, false, false, false, false] (by kernel_rfl) rfl rfl ⟨(blk_cell BK.out 0).trans rfl, (blk_cell BX.out 0).trans rfl, (blk_cell BX.out 1).trans rfl⟩ (fun hHeld => ?_)
    have n1_ := Aside0.mk (Below.drew HB.out)
    have n2_ := Aside0.mk (blk_drew BK.out)
    have n3_ := Aside0.mk (blk_drew BX.out)
    have n4_ := Aside0.mk HO.out.drew
    clear HB BK BX HO
    have HB := n1_
    have BK := n2_
    have BX := n3_
    have HO := n4_
    clear n1_ n2_ n3_ n4_
    generalize w7.drew = w8 at HB BK BX HO hHeld ⊢
    refine pure_ (i := 0) (N := some 45) (v := ?_) (a' := ?_) #[true, false, false, false, false, false] rfl rfl (by kernel_rfl) (fun _ _ _ h => h) (Or.inl ⟨by rfl, ?_⟩) ?_ ?_
    rotate_left
    · intro w'
      go_simp
      with_reducible rfl
    rotate_left
    · simp only [Act.put, List.setIfInBounds_toArray, List.set_cons_zero, List.set_cons_succ, i64_w, i32_w]
      rfl
    refine pure_ (i := 1) (N := some 46) (v := ?_) (a' := ?_) #[true, true, false, false, false, false] rfl rfl (by kernel_rfl) (fun _ _ _ h => h) (Or.inl ⟨by rfl, ?_⟩) ?_ ?_
    rotate_left
    · intro w'
      go_simp
      with_reducible rfl
    rotate_left
    · simp only [Act.put, List.setIfInBounds_toArray, List.set_cons_zero, List.set_cons_succ, i64_w, i32_w]
      rfl
    refine pure_ (i := 2) (N := some 47) (v := ?_) (a' := ?_) #[true, true, true, false, false, false] rfl rfl (by kernel_rfl) (fun _ _ _ h => h) (Or.inl ⟨by rfl, ?_⟩) ?_ ?_
    rotate_left
    · intro w'
      go_simp
      with_reducible rfl
    rotate_left
    · simp only [Act.put, List.setIfInBounds_toArray, List.set_cons_zero, List.set_cons_succ, i64_w, i32_w]
      rfl
    refine take_ (i := 3) (N := some 48) (v := ?_) (a' := ?_) #[true, true, true, true, false, false] rfl rfl (by kernel_rfl) (fun _ _ _ h => h) (Or.inl ⟨by rfl, ?_⟩) hHeld ?_ ?_
    rotate_left
    · intro w' ⟨s0, s1, s2⟩
      go_simp
      with_reducible rfl
    rotate_left
    · simp only [Act.put, List.setIfInBounds_toArray, List.set_cons_zero, List.set_cons_succ, i64_w, i32_w]
      rfl
    refine take_ (i := 4) (N := some 49) (v := ?_) (a' := ?_) #[true, true, true, true, true, false] rfl rfl (by kernel_rfl) (fun _ _ _ h => h) (Or.inl ⟨by rfl, ?_⟩) hHeld ?_ ?_
    rotate_left
    · intro w' ⟨s0, s1, s2⟩
      go_simp
      with_reducible rfl
    rotate_left
    · simp only [Act.put, List.setIfInBounds_toArray, List.set_cons_zero, List.set_cons_succ, i64_w, i32_w]
      rfl
    obtain ⟨w9, hrun, hown, hturn⟩ := HO.out.drop cellKeyed Tryd.underlying31 (ck_key s m HR.out) 0
    refine one_ (i := 5) (N := none) #[true, true, true, true, true, true] rfl rfl (by kernel_rfl) (by decide) (fun K hK => ?_)
    refine value_ (v := .tuple #[]) (w1 := w9) (by rfl) rfl ?_ ?_
    · go_simp
      first | done | exact hrun | (rw [hrun]; rfl)
    have n2_ := Aside0.mk (turn_blk hturn BK.out HNB.out.symm)
    have n3_ := Aside0.mk (turn_blk hturn BX.out HGB.out)
    have n1_ := Aside0.mk (HB.out.grown hturn.grown (Nat.le_of_lt (Nat.lt_of_le_of_lt HBB.out HO.out.lt)) (fun k e => by cases e; exact HBB.out))
    have n4_ := Aside0.mk hown
    clear HB BK BX HO hHeld hrun hown hturn
    have HB := n1_
    have BK := n2_
    have BX := n3_
    have HO := n4_
    clear n1_ n2_ n3_ n4_
    refine hK.out _ _ ⟨(blk_cell BK.out 0).trans rfl, (blk_cell BX.out 0).trans rfl, (blk_cell BX.out 1).trans rfl⟩ (fun hHeld => ?_)
    clear hK K hHeld
    refine done_ (by kernel_rfl) ?_
    go_wp2
    go_ret
    exact ⟨rfl, Or.inr ⟨b, _, BK.out, HBB.out, HNB.out, HO.out, fun s' m' h' => atKey_del0 s m (fun s' m' h' => atKey_upd HIM.out HT.out s m 0 HR.out s' m' h') HR.out s' m' h'⟩, HB.out⟩
  · have cb3 : decide (v = 0) = false := decide_eq_false hv0
    have cb4 : (v = 0) = False := eq_false hv0
    go_wp2
    go_ret
    exact ⟨rfl, Or.inr ⟨b, _, BK.out, HBB.out, HNB.out, HO.out, fun s' m' h' => atKey_upd HIM.out HT.out s m v HR.out s' m' h'⟩, HB.out⟩
theorem Set.calls [Inhabited (Int → Addr)] (bt base n : Nat) (T : Int → Int → Int) (s m v : Int) (w : World) (hG : GlobOK w) (hT : TbM bt base n T w) (hbt : base ≤ bt) (hbase : base ≤ w.heap.size) (hn : n < 1000) (h : rg16 s m) (hv : amtB v = true) :
    Calls Tryd.prog 12 #[.pointer (some ⟨bt, 0, none⟩), .agg #[.int .i64 s, .int .i64 m], .int .i64 v] w fun e w' => e = .returned .nilIface ∧ TbM bt base (n + 1) (updT T s m v) w' ∧ Below base w w' := by
  rcases hT with ⟨h0, hT⟩ | ⟨b, D, h0, hbb, hne, ho, hT⟩
  · exact Set.nilcase bt base n T s m v w hG h0 (fun s m _ => hT s m) hbt hbase hn h hv
  · by_cases hz : Go.Maps.size D = 0
    · exact Set.emptycase bt base n b D T s m v w hG h0 hbb hne ho hT hz hbt hbase hn h hv
    · exact Set.fullcase bt base n b D T s m v w hG h0 hbb hne ho hT hz hbt hbase hn h hv
/-- The first i of the weights are 1. -/
def onesL (ns : List Int) (i : Nat) : List Int := List.replicate i 1 ++ ns.drop i
theorem onesL_len (ns : List Int) (i : Nat) (h : i ≤ ns.length) : (onesL ns i).length = ns.length := by unfold onesL; rw [List.length_append, List.length_replicate, List.length_drop]; omega
theorem onesL_all (ns : List Int) : onesL ns ns.length = List.replicate ns.length 1 := by unfold onesL; rw [List.drop_length, List.append_nil]
theorem onesL_set (ns : List Int) (i : Nat) (h : i < ns.length) : (onesL ns i).set i 1 = onesL ns (i + 1) := by
  unfold onesL
  rw [List.set_append_right (h := by rw [List.length_replicate]; exact Nat.le_refl _), List.length_replicate, Nat.sub_self, List.drop_eq_getElem_cons h, List.set_cons_zero, List.replicate_succ', List.append_assoc]
  rfl
/-- The fund where no need is above 0: by as many 1s. -/
def sizeZ (k : Nat) (T : Int → Int → Int) (fl mo : Int) (ns : List Int) : Option (Int × Int × List Int) :=
  (fund_Clamp.f 0 fl mo).bind fun c => if c.2 = none then (covL k T ns 16 1 0 1).bind fun cv => (fund_Clamp.f cv.1 fl mo).bind fun t => if t.2 = none then
    (if 0 < ns.length ∧ ns.length ≤ 32 ∧ (ns.any fun n => decide (n > 0)) = false then (share_Split.f t.1 (List.replicate ns.length 1)).bind fun s => if s.2 = none then some (t.1, cv.2, s.1) else none else none) else none else none
set_option maxHeartbeats 8000000 in
set_option maxRecDepth 1000000 in
theorem SizeZ.calls [Inhabited (Int → Addr)] (k bt : Nat) (T : Int → Int → Int) (fl mo : Int) (A3 : Option Addr) (c3 : Nat) (ns : List Int) (tg sc : Int) (sh : List Int) (w : World) (hG : GlobOK w) (hT : TbG bt T w) (hr3 : Kd.C (Kd.int .i64) w A3 ns.length ns) (hc3 : ns.length ≤ c3) (h : sizeZ k T fl mo ns = some (tg, sc, sh)) :
    Calls Tryd.prog 11 #[.pointer (some ⟨bt, 0, none⟩), .int .i64 fl, .int .i64 mo, .slice A3 ns.length c3] w fun e w' => ∃ AS cS, e = .returned (.tuple #[.agg #[.int .i64 fl, .int .i64 mo, .int .i64 tg, .int .i64 sc, .slice AS sh.length cS], .nilIface]) ∧ Kd.R (Kd.int .i64) 2 w' w.heap.size (fun _ => True) (.slice AS sh.length cS) sh ∧ Below w.heap.size w w' := by
  have hu1 := Tryd.underlying35
  have HG := Aside0.mk hG
  have HT := Aside0.mk hT
  have HM := Aside0.mk hr3
  have HMC := Aside0.mk hc3
  have HB := Aside0.mk (Below.refl w.heap.size w)
  unfold sizeZ at h
  obtain ⟨⟨q1, q2⟩, hcl, h⟩ := Option.bind_eq_some_iff.mp h
  simp only [] at h
  by_cases hq : q2 = none
  rotate_left
  · rw [if_neg hq] at h; exact absurd h (by simp)
  rw [if_pos hq] at h
  subst hq
  obtain ⟨⟨cv, sc'⟩, hcv, h⟩ := Option.bind_eq_some_iff.mp h
  obtain ⟨⟨t1, t2⟩, hct, h⟩ := Option.bind_eq_some_iff.mp h
  simp only [] at h
  by_cases hq : t2 = none
  rotate_left
  · rw [if_neg hq] at h; exact absurd h (by simp)
  rw [if_pos hq] at h
  subst hq
  have HCL := Aside0.mk hcl
  have HCT := Aside0.mk hct
  clear hcl hct hG hT hr3 hc3
  by_cases hany : 0 < ns.length ∧ ns.length ≤ 32 ∧ (ns.any fun n => decide (n > 0)) = false
  rotate_left
  · rw [if_neg hany] at h; exact absurd h (by simp)
  rw [if_pos hany] at h
  obtain ⟨⟨sh', se⟩, hsp, h⟩ := Option.bind_eq_some_iff.mp h
  simp only [] at h
  by_cases hq : se = none
  rotate_left
  · rw [if_neg hq] at h; exact absurd h (by simp)
  rw [if_pos hq] at h
  subst hq
  simp only [Option.some.injEq, Prod.mk.injEq] at h
  obtain ⟨e1, e2, e3⟩ := h
  have e1' := e1.symm
  have e2' := e2.symm
  have e3' := e3.symm
  clear e1 e2 e3
  subst e1'
  subst e2'
  subst e3'
  have HCV := Aside0.mk hcv
  have HAN := Aside0.mk hany.2.2
  have HN32 := Aside0.mk hany.2.1
  have HPOS := Aside0.mk hany.1
  have HSP := Aside0.mk hsp
  have cb0 : ((ns.length : Int) == 0) = false := beq_eq_false_iff_ne.mpr (by omega)
  have cb1 : (ns.length == 0) = false := beq_eq_false_iff_ne.mpr (by omega)
  have cb2 : (ns.length = 0) = False := eq_false (by omega)
  clear hcv hany hsp
  go_enter Tryd.func11, Tryd.ntmps11
  go_upto_region 11 with (first
    | ((with_reducible refine gate_dst (N := 8) rfl ?_); refine box_event ?hg (N := 8) ?hd (cs := #[.int .i64 0, .int .i64 0, .int .i64 0, .int .i64 0, .slice none 0 0]) (t := 35) ?hr ?_; (case hd => rfl); (case hg => rfl); (case hr => first | (go_simp; done) | (go_simp; rfl)); intro g8 hg_ w_ hbox hb; have HG8 := Aside0.mk (show w.heap.size ≤ g8 from Nat.le_trans (below_size HB.out) (Nat.le_of_eq hg_.symm)); have n_ := Aside0.mk (below_step HB.out hb); clear HB; have HB := n_; clear n_; have BK8 := Aside0.mk hbox; clear hb hbox hg_; have a0 : w_.cell? ⟨g8, 0, none⟩ = some (.int .i64 0) := (blk_cell BK8.out 0).trans rfl; have a1 : w_.cell? ⟨g8, 1, none⟩ = some (.int .i64 0) := (blk_cell BK8.out 1).trans rfl; have a2 : w_.cell? ⟨g8, 2, none⟩ = some (.int .i64 0) := (blk_cell BK8.out 2).trans rfl; have a3 : w_.cell? ⟨g8, 3, none⟩ = some (.int .i64 0) := (blk_cell BK8.out 3).trans rfl; have a4 : w_.cell? ⟨g8, 4, none⟩ = some (.slice none 0 0) := (blk_cell BK8.out 4).trans rfl; have af0 := blk_frozen BK8.out 0; have af1 := blk_frozen BK8.out 1; have af2 := blk_frozen BK8.out 2; have af3 := blk_frozen BK8.out 3; have af4 := blk_frozen BK8.out 4)
    | (go_at_call 8; have hN := fund_Clamp.calls 0 fl mo q1 none _ (HG.out.below HB.out) HCL.out; simp only [errW_none] at hN; (with_reducible refine hN.mono ?_); clear hN; rintro e w_ ⟨rfl, hb⟩; have n_ := Aside0.mk (below_step HB.out hb); clear HB; have HB := n_; clear n_; have n_ := Aside0.mk (blk_below BK8.out hb); (try clear a0 af0 a1 af1 a2 af2 a3 af3 a4 af4); clear BK8; have BK8 := n_; clear n_; have a0 : w_.cell? ⟨g8, 0, none⟩ = some (.int .i64 0) := (blk_cell BK8.out 0).trans rfl; have a1 : w_.cell? ⟨g8, 1, none⟩ = some (.int .i64 0) := (blk_cell BK8.out 1).trans rfl; have a2 : w_.cell? ⟨g8, 2, none⟩ = some (.int .i64 0) := (blk_cell BK8.out 2).trans rfl; have a3 : w_.cell? ⟨g8, 3, none⟩ = some (.int .i64 0) := (blk_cell BK8.out 3).trans rfl; have a4 : w_.cell? ⟨g8, 4, none⟩ = some (.slice none 0 0) := (blk_cell BK8.out 4).trans rfl; have af0 := blk_frozen BK8.out 0; have af1 := blk_frozen BK8.out 1; have af2 := blk_frozen BK8.out 2; have af3 := blk_frozen BK8.out 3; have af4 := blk_frozen BK8.out 4; clear hb)
    | (go_at_call 18; have hN := Cover.calls k bt T A3 c3 ns cv sc _ (HG.out.below HB.out) (HT.out.below HB.out) (Kd.C_below HM.out HB.out) HMC.out HCV.out; (with_reducible refine hN.mono ?_); clear hN; rintro e w_ ⟨rfl, hb⟩; have n_ := Aside0.mk (below_step HB.out hb); clear HB; have HB := n_; clear n_; have n_ := Aside0.mk (blk_below BK8.out hb); (try clear a0 af0 a1 af1 a2 af2 a3 af3 a4 af4); clear BK8; have BK8 := n_; clear n_; have a0 : w_.cell? ⟨g8, 0, none⟩ = some (.int .i64 0) := (blk_cell BK8.out 0).trans rfl; have a1 : w_.cell? ⟨g8, 1, none⟩ = some (.int .i64 0) := (blk_cell BK8.out 1).trans rfl; have a2 : w_.cell? ⟨g8, 2, none⟩ = some (.int .i64 0) := (blk_cell BK8.out 2).trans rfl; have a3 : w_.cell? ⟨g8, 3, none⟩ = some (.int .i64 0) := (blk_cell BK8.out 3).trans rfl; have a4 : w_.cell? ⟨g8, 4, none⟩ = some (.slice none 0 0) := (blk_cell BK8.out 4).trans rfl; have af0 := blk_frozen BK8.out 0; have af1 := blk_frozen BK8.out 1; have af2 := blk_frozen BK8.out 2; have af3 := blk_frozen BK8.out 3; have af4 := blk_frozen BK8.out 4; clear hb)
    | (go_at_call 8; have hN := fund_Clamp.calls cv fl mo tg none _ (HG.out.below HB.out) HCT.out; simp only [errW_none] at hN; (with_reducible refine hN.mono ?_); clear hN; rintro e w_ ⟨rfl, hb⟩; have n_ := Aside0.mk (below_step HB.out hb); clear HB; have HB := n_; clear n_; have n_ := Aside0.mk (blk_below BK8.out hb); (try clear a0 af0 a1 af1 a2 af2 a3 af3 a4 af4); clear BK8; have BK8 := n_; clear n_; have a0 : w_.cell? ⟨g8, 0, none⟩ = some (.int .i64 0) := (blk_cell BK8.out 0).trans rfl; have a1 : w_.cell? ⟨g8, 1, none⟩ = some (.int .i64 0) := (blk_cell BK8.out 1).trans rfl; have a2 : w_.cell? ⟨g8, 2, none⟩ = some (.int .i64 0) := (blk_cell BK8.out 2).trans rfl; have a3 : w_.cell? ⟨g8, 3, none⟩ = some (.int .i64 0) := (blk_cell BK8.out 3).trans rfl; have a4 : w_.cell? ⟨g8, 4, none⟩ = some (.slice none 0 0) := (blk_cell BK8.out 4).trans rfl; have af0 := blk_frozen BK8.out 0; have af1 := blk_frozen BK8.out 1; have af2 := blk_frozen BK8.out 2; have af3 := blk_frozen BK8.out 3; have af4 := blk_frozen BK8.out 4; clear hb)
    | ((with_reducible refine gate_dst (N := 16) rfl ?_); refine box_event ?hg (N := 16) ?hd (cs := #[.int .i64 0, .int .i64 0, .int .i64 0, .int .i64 0, .slice none 0 0]) (t := 35) ?hr ?_; (case hd => rfl); (case hg => rfl); (case hr => first | (go_simp; done) | (go_simp; rfl)); intro g16 hg_ w_ hbox hb; have HNE := Aside0.mk (show g8 ≠ g16 from by have := blk_lt BK8.out; omega); have HG16 := Aside0.mk (show w.heap.size ≤ g16 from Nat.le_trans (below_size HB.out) (Nat.le_of_eq hg_.symm)); have n_ := Aside0.mk (below_step HB.out hb); clear HB; have HB := n_; clear n_; have n_ := Aside0.mk (blk_below BK8.out hb); (try clear a0 af0 a1 af1 a2 af2 a3 af3 a4 af4); clear BK8; have BK8 := n_; clear n_; have a0 : w_.cell? ⟨g8, 0, none⟩ = some (.int .i64 0) := (blk_cell BK8.out 0).trans rfl; have a1 : w_.cell? ⟨g8, 1, none⟩ = some (.int .i64 0) := (blk_cell BK8.out 1).trans rfl; have a2 : w_.cell? ⟨g8, 2, none⟩ = some (.int .i64 0) := (blk_cell BK8.out 2).trans rfl; have a3 : w_.cell? ⟨g8, 3, none⟩ = some (.int .i64 0) := (blk_cell BK8.out 3).trans rfl; have a4 : w_.cell? ⟨g8, 4, none⟩ = some (.slice none 0 0) := (blk_cell BK8.out 4).trans rfl; have af0 := blk_frozen BK8.out 0; have af1 := blk_frozen BK8.out 1; have af2 := blk_frozen BK8.out 2; have af3 := blk_frozen BK8.out 3; have af4 := blk_frozen BK8.out 4; have BK16 := Aside0.mk hbox; clear hb hbox hg_; have hn1_ := HNE.out; have hn2_ := HNE.out.symm; have y0 : w_.cell? ⟨g16, 0, none⟩ = some (.int .i64 0) := (blk_cell BK16.out 0).trans rfl; have y1 : w_.cell? ⟨g16, 1, none⟩ = some (.int .i64 0) := (blk_cell BK16.out 1).trans rfl; have y2 : w_.cell? ⟨g16, 2, none⟩ = some (.int .i64 0) := (blk_cell BK16.out 2).trans rfl; have y3 : w_.cell? ⟨g16, 3, none⟩ = some (.int .i64 0) := (blk_cell BK16.out 3).trans rfl; have y4 : w_.cell? ⟨g16, 4, none⟩ = some (.slice none 0 0) := (blk_cell BK16.out 4).trans rfl; have yf0 := blk_frozen BK16.out 0; have yf1 := blk_frozen BK16.out 1; have yf2 := blk_frozen BK16.out 2; have yf3 := blk_frozen BK16.out 3; have yf4 := blk_frozen BK16.out 4))
  have n1_ := Aside0.mk (blk_put (blk_put (blk_put (blk_put (blk_put BK16.out 0 (.int .i64 fl) rfl) 1 (.int .i64 mo) rfl) 2 (.int .i64 tg) rfl) 3 (.int .i64 sc) rfl) 4 (.slice none 0 0) rfl)
  have n2_ := Aside0.mk ((Below.heap_setCell _ ⟨g16, 4, none⟩ (.slice none 0 0) g8 HNE.out).trans ((Below.heap_setCell _ ⟨g16, 3, none⟩ (.int .i64 sc) g8 HNE.out).trans ((Below.heap_setCell _ ⟨g16, 2, none⟩ (.int .i64 tg) g8 HNE.out).trans ((Below.heap_setCell _ ⟨g16, 1, none⟩ (.int .i64 mo) g8 HNE.out).trans ((Below.heap_setCell _ ⟨g16, 0, none⟩ (.int .i64 fl) g8 HNE.out).trans BK8.out)))))
  have n3_ := Aside0.mk (((((HB.out.setCell (p := ⟨g16, 0, none⟩) HG16.out (.int .i64 fl)).setCell (p := ⟨g16, 1, none⟩) HG16.out (.int .i64 mo)).setCell (p := ⟨g16, 2, none⟩) HG16.out (.int .i64 tg)).setCell (p := ⟨g16, 3, none⟩) HG16.out (.int .i64 sc)).setCell (p := ⟨g16, 4, none⟩) HG16.out (.slice none 0 0))
  clear BK16 BK8 HB a0 af0 a1 af1 a2 af2 a3 af3 a4 af4 y0 yf0 y1 yf1 y2 yf2 y3 yf3 y4 yf4
  generalize (((((w_.setCell ⟨g16, 0, none⟩ (.int .i64 fl)).setCell ⟨g16, 1, none⟩ (.int .i64 mo)).setCell ⟨g16, 2, none⟩ (.int .i64 tg)).setCell ⟨g16, 3, none⟩ (.int .i64 sc)).setCell ⟨g16, 4, none⟩ (.slice none 0 0)) = w5 at n1_ n2_ n3_ ⊢
  have BK16 : Aside0 (w5.heap[g16]? = some (.cells #[.int .i64 fl, .int .i64 mo, .int .i64 tg, .int .i64 sc, .slice none 0 0] 35 (0, 0))) := ⟨n1_.out.trans rfl⟩
  have BK8 := n2_
  have HB := n3_
  clear n1_ n2_ n3_
  have a0 : w5.cell? ⟨g8, 0, none⟩ = some (.int .i64 0) := (blk_cell BK8.out 0).trans rfl
  have a1 : w5.cell? ⟨g8, 1, none⟩ = some (.int .i64 0) := (blk_cell BK8.out 1).trans rfl
  have a2 : w5.cell? ⟨g8, 2, none⟩ = some (.int .i64 0) := (blk_cell BK8.out 2).trans rfl
  have a3 : w5.cell? ⟨g8, 3, none⟩ = some (.int .i64 0) := (blk_cell BK8.out 3).trans rfl
  have a4 : w5.cell? ⟨g8, 4, none⟩ = some (.slice none 0 0) := (blk_cell BK8.out 4).trans rfl
  have af0 := blk_frozen BK8.out 0
  have af1 := blk_frozen BK8.out 1
  have af2 := blk_frozen BK8.out 2
  have af3 := blk_frozen BK8.out 3
  have af4 := blk_frozen BK8.out 4
  have y0 : w5.cell? ⟨g16, 0, none⟩ = some (.int .i64 fl) := (blk_cell BK16.out 0).trans rfl
  have y1 : w5.cell? ⟨g16, 1, none⟩ = some (.int .i64 mo) := (blk_cell BK16.out 1).trans rfl
  have y2 : w5.cell? ⟨g16, 2, none⟩ = some (.int .i64 tg) := (blk_cell BK16.out 2).trans rfl
  have y3 : w5.cell? ⟨g16, 3, none⟩ = some (.int .i64 sc) := (blk_cell BK16.out 3).trans rfl
  have y4 : w5.cell? ⟨g16, 4, none⟩ = some (.slice none 0 0) := (blk_cell BK16.out 4).trans rfl
  have yf0 := blk_frozen BK16.out 0
  have yf1 := blk_frozen BK16.out 1
  have yf2 := blk_frozen BK16.out 2
  have yf3 := blk_frozen BK16.out 3
  have yf4 := blk_frozen BK16.out 4
  go_wp2_with (first
    | (go_at_call 24; have hN := slices_Clone_int64_int64.calls A3 c3 ns ns _ (Kd.C_below HM.out HB.out) HMC.out (by unfold slices_Clone_int64_int64.f; rw [if_pos (by have := HN32.out; omega)]); (with_reducible refine hN.mono ?_); clear hN; rintro e w_ ⟨v_, rfl, ho, hb⟩; obtain ⟨g7, c7, m7, hv_, hlc_, hbg_, hrow_, hback_⟩ := RowW.of_R ho HPOS.out; subst hv_; have HG7 := Aside0.mk (show w.heap.size ≤ g7 from Nat.le_trans (below_size HB.out) hbg_); have HN8 := Aside0.mk (show g8 ≠ g7 from by have := blk_lt BK8.out; omega); have HN16 := Aside0.mk (show g16 ≠ g7 from by have := blk_lt BK16.out; omega); have HRW := Aside0.mk hrow_; have HBACK := Aside0.mk hback_; have HLC := Aside0.mk hlc_; have n_ := Aside0.mk (below_step HB.out hb); clear HB; have HB := n_; clear n_; have n_ := Aside0.mk (blk_below BK8.out hb); (try clear a0 af0 a1 af1 a2 af2 a3 af3 a4 af4); clear BK8; have BK8 := n_; clear n_; have a0 : w_.cell? ⟨g8, 0, none⟩ = some (.int .i64 0) := (blk_cell BK8.out 0).trans rfl; have a1 : w_.cell? ⟨g8, 1, none⟩ = some (.int .i64 0) := (blk_cell BK8.out 1).trans rfl; have a2 : w_.cell? ⟨g8, 2, none⟩ = some (.int .i64 0) := (blk_cell BK8.out 2).trans rfl; have a3 : w_.cell? ⟨g8, 3, none⟩ = some (.int .i64 0) := (blk_cell BK8.out 3).trans rfl; have a4 : w_.cell? ⟨g8, 4, none⟩ = some (.slice none 0 0) := (blk_cell BK8.out 4).trans rfl; have af0 := blk_frozen BK8.out 0; have af1 := blk_frozen BK8.out 1; have af2 := blk_frozen BK8.out 2; have af3 := blk_frozen BK8.out 3; have af4 := blk_frozen BK8.out 4; have n_ := Aside0.mk (blk_below BK16.out hb); (try clear y0 yf0 y1 yf1 y2 yf2 y3 yf3 y4 yf4); clear BK16; have BK16 := n_; clear n_; have y0 : w_.cell? ⟨g16, 0, none⟩ = some (.int .i64 fl) := (blk_cell BK16.out 0).trans rfl; have y1 : w_.cell? ⟨g16, 1, none⟩ = some (.int .i64 mo) := (blk_cell BK16.out 1).trans rfl; have y2 : w_.cell? ⟨g16, 2, none⟩ = some (.int .i64 tg) := (blk_cell BK16.out 2).trans rfl; have y3 : w_.cell? ⟨g16, 3, none⟩ = some (.int .i64 sc) := (blk_cell BK16.out 3).trans rfl; have y4 : w_.cell? ⟨g16, 4, none⟩ = some (.slice none 0 0) := (blk_cell BK16.out 4).trans rfl; have yf0 := blk_frozen BK16.out 0; have yf1 := blk_frozen BK16.out 1; have yf2 := blk_frozen BK16.out 2; have yf3 := blk_frozen BK16.out 3; have yf4 := blk_frozen BK16.out 4; clear ho hb hlc_ hbg_ hrow_ hback_)
    | (go_at_call 25; have hN := has_ints ns A3 c3 _ (Kd.C_below HM.out HB.out) (fun n => decide (n > 0)) 26 #[] (pos_answers _) enters26; rw [HAN.out] at hN; (with_reducible refine hN.mono ?_); clear hN; rintro e w_ ⟨rfl, hb⟩; have n_ := Aside0.mk (HRW.out.below hb); clear HRW; have HRW := n_; clear n_; have n_ := Aside0.mk (below_step HB.out hb); clear HB; have HB := n_; clear n_; have n_ := Aside0.mk (blk_below BK8.out hb); (try clear a0 af0 a1 af1 a2 af2 a3 af3 a4 af4); clear BK8; have BK8 := n_; clear n_; have a0 : w_.cell? ⟨g8, 0, none⟩ = some (.int .i64 0) := (blk_cell BK8.out 0).trans rfl; have a1 : w_.cell? ⟨g8, 1, none⟩ = some (.int .i64 0) := (blk_cell BK8.out 1).trans rfl; have a2 : w_.cell? ⟨g8, 2, none⟩ = some (.int .i64 0) := (blk_cell BK8.out 2).trans rfl; have a3 : w_.cell? ⟨g8, 3, none⟩ = some (.int .i64 0) := (blk_cell BK8.out 3).trans rfl; have a4 : w_.cell? ⟨g8, 4, none⟩ = some (.slice none 0 0) := (blk_cell BK8.out 4).trans rfl; have af0 := blk_frozen BK8.out 0; have af1 := blk_frozen BK8.out 1; have af2 := blk_frozen BK8.out 2; have af3 := blk_frozen BK8.out 3; have af4 := blk_frozen BK8.out 4; have n_ := Aside0.mk (blk_below BK16.out hb); (try clear y0 yf0 y1 yf1 y2 yf2 y3 yf3 y4 yf4); clear BK16; have BK16 := n_; clear n_; have y0 : w_.cell? ⟨g16, 0, none⟩ = some (.int .i64 fl) := (blk_cell BK16.out 0).trans rfl; have y1 : w_.cell? ⟨g16, 1, none⟩ = some (.int .i64 mo) := (blk_cell BK16.out 1).trans rfl; have y2 : w_.cell? ⟨g16, 2, none⟩ = some (.int .i64 tg) := (blk_cell BK16.out 2).trans rfl; have y3 : w_.cell? ⟨g16, 3, none⟩ = some (.int .i64 sc) := (blk_cell BK16.out 3).trans rfl; have y4 : w_.cell? ⟨g16, 4, none⟩ = some (.slice none 0 0) := (blk_cell BK16.out 4).trans rfl; have yf0 := blk_frozen BK16.out 0; have yf1 := blk_frozen BK16.out 1; have yf2 := blk_frozen BK16.out 2; have yf3 := blk_frozen BK16.out 3; have yf4 := blk_frozen BK16.out 4; clear hb))
  go_loopg [67] ns.length (fun gq v67 wr => ∃ (i : Nat), v67 = .int .i64 i ∧ Aside0 (i ≤ ns.length) ∧ Aside0 (ns.length ≤ gq + i) ∧ Aside0 (Below w.heap.size w wr) ∧ Aside0 (RowW g7 2 m7 wr (onesL ns i)) ∧ Aside0 (wr.heap[g8]? = some (.cells #[.int .i64 0, .int .i64 0, .int .i64 0, .int .i64 0, .slice none 0 0] 35 (0, 0))) ∧ Aside0 (wr.heap[g16]? = some (.cells #[.int .i64 fl, .int .i64 mo, .int .i64 tg, .int .i64 sc, .slice none 0 0] 35 (0, 0))))
  case atStart => exact ⟨0, rfl, ⟨Nat.zero_le _⟩, ⟨Nat.le_refl _⟩, HB, ⟨HRW.out⟩, BK8, BK16⟩
  case round =>
    clear HB HRW BK8 BK16 a0 af0 a1 af1 a2 af2 a3 af3 a4 af4 y0 yf0 y1 yf1 y2 yf2 y3 yf3 y4 yf4
    obtain ⟨i, rfl, HI, HKI, HB, HRW, BK8, BK16⟩ := hrel
    by_cases hlt : i < ns.length
    · have cb3 : decide ((i : Int) < (ns.length : Int)) = true := decide_eq_true (by omega)
      have cb4 : ((i : Int) < (ns.length : Int)) = True := eq_true (by omega)
      have cb5 : (i < ns.length) = True := eq_true hlt
      have cb6 : decide (i < ns.length) = true := decide_eq_true hlt
      have HLI := Aside0.mk hlt
      have hW1 : wrap64 ((i : Int) + 1) = ((i + 1 : Nat) : Int) := by have := HN32.out; unfold wrap64; omega
      have HW := Aside0.mk hW1
      have k0 := HRW.out.c i (by rw [onesL_len ns i HI.out]; exact hlt)
      have f0 := HRW.out.f i
      clear hlt
      go_wp2
      have n1_ := Aside0.mk (HB.out.setCell (p := ⟨g7, i, none⟩) HG7.out (.int .i64 1))
      have n2_ := Aside0.mk (HRW.out.put i (by rw [onesL_len ns i HI.out]; exact HLI.out) 1)
      have n3_ := Aside0.mk ((Below.heap_setCell _ ⟨g7, i, none⟩ (.int .i64 1) g8 HN8.out).trans BK8.out)
      have n4_ := Aside0.mk ((Below.heap_setCell _ ⟨g7, i, none⟩ (.int .i64 1) g16 HN16.out).trans BK16.out)
      go_roundg (ns.length - (i + 1))
      case measure => have := HKI.out; have := HLI.out; omega
      case rel => exact ⟨i + 1, by first | rw [HW.out] | rfl, ⟨by have := HLI.out; omega⟩, ⟨by have := HLI.out; omega⟩, n1_, ⟨by rw [← onesL_set ns i HLI.out]; exact n2_.out⟩, n3_, n4_⟩
    · obtain rfl : ns.length = i := by have := HI.out; omega
      have cb3 : decide ((ns.length : Int) < (ns.length : Int)) = false := decide_eq_false (by omega)
      have cb4 : ((ns.length : Int) < (ns.length : Int)) = False := eq_false (by omega)
      have cb5 : decide (ns.length < ns.length) = false := decide_eq_false (by omega)
      have hR := HBACK.out _ (List.replicate ns.length 1) (by have h_ := HRW.out; rw [onesL_all] at h_; exact h_) (List.length_replicate ..)
      have HQ := Aside0.mk (Kd.R_reads' hR).2.2
      have HQL := Aside0.mk (show (List.replicate ns.length (1 : Int)).length ≤ c7 by rw [List.length_replicate]; exact HLC.out)
      clear hlt hR
      have a0 := (blk_cell BK8.out 0).trans (show _ = some (.int .i64 0) from rfl)
      have a1 := (blk_cell BK8.out 1).trans (show _ = some (.int .i64 0) from rfl)
      have a2 := (blk_cell BK8.out 2).trans (show _ = some (.int .i64 0) from rfl)
      have a3 := (blk_cell BK8.out 3).trans (show _ = some (.int .i64 0) from rfl)
      have a4 := (blk_cell BK8.out 4).trans (show _ = some (.slice none 0 0) from rfl)
      have af0 := blk_frozen BK8.out 0
      have af1 := blk_frozen BK8.out 1
      have af2 := blk_frozen BK8.out 2
      have af3 := blk_frozen BK8.out 3
      have af4 := blk_frozen BK8.out 4
      have y0 := (blk_cell BK16.out 0).trans (show _ = some (.int .i64 fl) from rfl)
      have y1 := (blk_cell BK16.out 1).trans (show _ = some (.int .i64 mo) from rfl)
      have y2 := (blk_cell BK16.out 2).trans (show _ = some (.int .i64 tg) from rfl)
      have y3 := (blk_cell BK16.out 3).trans (show _ = some (.int .i64 sc) from rfl)
      have y4 := (blk_cell BK16.out 4).trans (show _ = some (.slice none 0 0) from rfl)
      have yf0 := blk_frozen BK16.out 0
      have yf1 := blk_frozen BK16.out 1
      have yf2 := blk_frozen BK16.out 2
      have yf3 := blk_frozen BK16.out 3
      have yf4 := blk_frozen BK16.out 4
      go_wp2_with (go_at_call 27; have hN := share_Split.calls tg (some ⟨g7, 0, none⟩) c7 (List.replicate ns.length 1) sh none _ (HG.out.below HB.out) HQ.out HQL.out HSP.out; rw [List.length_replicate] at hN; simp only [errW_none] at hN; (with_reducible refine hN.mono ?_); clear hN; rintro e w_ ⟨v_, rfl, ho, hb⟩; obtain ⟨AS, cS, rfl⟩ := Kd.R_slice ho; have HS := Aside0.mk (Kd.R_lower ho (below_size HB.out)); have n_ := Aside0.mk (below_step HB.out hb); clear HB; have HB := n_; clear n_; have n_ := Aside0.mk (blk_below BK8.out hb); (try clear a0 af0 a1 af1 a2 af2 a3 af3 a4 af4); clear BK8; have BK8 := n_; clear n_; have a0 : w_.cell? ⟨g8, 0, none⟩ = some (.int .i64 0) := (blk_cell BK8.out 0).trans rfl; have a1 : w_.cell? ⟨g8, 1, none⟩ = some (.int .i64 0) := (blk_cell BK8.out 1).trans rfl; have a2 : w_.cell? ⟨g8, 2, none⟩ = some (.int .i64 0) := (blk_cell BK8.out 2).trans rfl; have a3 : w_.cell? ⟨g8, 3, none⟩ = some (.int .i64 0) := (blk_cell BK8.out 3).trans rfl; have a4 : w_.cell? ⟨g8, 4, none⟩ = some (.slice none 0 0) := (blk_cell BK8.out 4).trans rfl; have af0 := blk_frozen BK8.out 0; have af1 := blk_frozen BK8.out 1; have af2 := blk_frozen BK8.out 2; have af3 := blk_frozen BK8.out 3; have af4 := blk_frozen BK8.out 4; have n_ := Aside0.mk (blk_below BK16.out hb); (try clear y0 yf0 y1 yf1 y2 yf2 y3 yf3 y4 yf4); clear BK16; have BK16 := n_; clear n_; have y0 : w_.cell? ⟨g16, 0, none⟩ = some (.int .i64 fl) := (blk_cell BK16.out 0).trans rfl; have y1 : w_.cell? ⟨g16, 1, none⟩ = some (.int .i64 mo) := (blk_cell BK16.out 1).trans rfl; have y2 : w_.cell? ⟨g16, 2, none⟩ = some (.int .i64 tg) := (blk_cell BK16.out 2).trans rfl; have y3 : w_.cell? ⟨g16, 3, none⟩ = some (.int .i64 sc) := (blk_cell BK16.out 3).trans rfl; have y4 : w_.cell? ⟨g16, 4, none⟩ = some (.slice none 0 0) := (blk_cell BK16.out 4).trans rfl; have yf0 := blk_frozen BK16.out 0; have yf1 := blk_frozen BK16.out 1; have yf2 := blk_frozen BK16.out 2; have yf3 := blk_frozen BK16.out 3; have yf4 := blk_frozen BK16.out 4; clear ho hb)
      have HS2 := Aside0.mk (Kd.R_types (Kd.R_types HS.out BK8.out (by decide)) BK16.out (by decide))
      refine bodyPost_ret (results_ct rfl _ _ g8 35 #[.int .i64 fl, .int .i64 mo, .int .i64 tg, .int .i64 sc, .slice AS sh.length cS] (0, 0) _ rfl ((blk_put (blk_put (blk_put (blk_put (blk_put ((Below.heap_setCell _ ⟨g16, 4, none⟩ (.slice AS sh.length cS) g8 HNE.out).trans BK8.out) 0 (.int .i64 fl) rfl) 1 (.int .i64 mo) rfl) 2 (.int .i64 tg) rfl) 3 (.int .i64 sc) rfl) 4 (.slice AS sh.length cS) rfl).trans rfl) Tryd.underlying35 rfl (by kernel_rfl)) rfl ?_
      exact ⟨AS, cS, rfl, Kd.R_mono (Kd.R_far (p := ⟨g8, 4, none⟩) (Kd.R_far (p := ⟨g8, 3, none⟩) (Kd.R_far (p := ⟨g8, 2, none⟩) (Kd.R_far (p := ⟨g8, 1, none⟩) (Kd.R_far (p := ⟨g8, 0, none⟩) (Kd.R_far (p := ⟨g16, 4, none⟩) HS2.out (fun _ hk => hk.2) (.slice AS sh.length cS)) (fun _ hk => hk.1.2) (.int .i64 fl)) (fun _ hk => hk.1.2) (.int .i64 mo)) (fun _ hk => hk.1.2) (.int .i64 tg)) (fun _ hk => hk.1.2) (.int .i64 sc)) (fun _ hk => hk.1.2) (.slice AS sh.length cS)) (fun _ _ => trivial), ((((((HB.out.setCell (p := ⟨g16, 4, none⟩) HG16.out (.slice AS sh.length cS)).setCell (p := ⟨g8, 0, none⟩) HG8.out (.int .i64 fl)).setCell (p := ⟨g8, 1, none⟩) HG8.out (.int .i64 mo)).setCell (p := ⟨g8, 2, none⟩) HG8.out (.int .i64 tg)).setCell (p := ⟨g8, 3, none⟩) HG8.out (.int .i64 sc)).setCell (p := ⟨g8, 4, none⟩) HG8.out (.slice AS sh.length cS))⟩
/-! ### The law -/
/-- What Number answers. -/
def numW (a m : Int) : Int := if Int.tmod a m < 0 then wrap64 (Int.tmod a m + m) else Int.tmod a m
theorem numW_f (a m : Int) (h : 0 < m) : pledgeworld_Number.f a m = some (numW a m) := by
  unfold pledgeworld_Number.f numW
  rw [if_neg (by omega)]
  split <;> rfl
theorem tmod_rng (a m : Int) (h : 0 < m) : -m < Int.tmod a m ∧ Int.tmod a m < m := by
  have h1 := Int.tmod_lt_of_pos a h
  have h2 := Int.lt_tmod_of_pos a h
  exact ⟨by omega, h1⟩
theorem numW_rng (a m : Int) (h : 0 < m) (h2 : m ≤ 100000) : 0 ≤ numW a m ∧ numW a m < m := by
  have h1 := tmod_rng a m h
  unfold numW
  generalize Int.tmod a m = t at h1 ⊢
  split
  · have e : wrap64 (t + m) = t + m := by unfold wrap64; omega
    rw [e]; omega
  · omega
/-- A remainder without its sign. -/
def absR (a m : Int) : Int := if Int.tmod a m < 0 then wrap64 (-(Int.tmod a m)) else Int.tmod a m
theorem absR_rng (a m : Int) (h : 0 < m) (h2 : m ≤ 100000) : 0 ≤ absR a m ∧ absR a m < m := by
  have h1 := tmod_rng a m h
  unfold absR
  generalize Int.tmod a m = t at h1 ⊢
  split
  · have e : wrap64 (-t) = -t := by unfold wrap64; omega
    rw [e]; omega
  · omega
/-- The table of the first i losses. -/
def tabL (l : List S49) : Nat → Int → Int → Int
  | 0 => fun _ _ => 0
  | i + 1 => updT (tabL l i) (wrap64 (numW (rd_T49 l (i : Int)).f0.f0 16 + 1)) (wrap64 (numW (rd_T49 l (i : Int)).f0.f1 8 + 1)) (absR (rd_T49 l (i : Int)).f1 100000)
theorem cell_rg (x : S49) : rg16 (wrap64 (numW x.f0.f0 16 + 1)) (wrap64 (numW x.f0.f1 8 + 1)) := by
  have h1 := numW_rng x.f0.f0 16 (by omega) (by omega)
  have h2 := numW_rng x.f0.f1 8 (by omega) (by omega)
  have e1 : wrap64 (numW x.f0.f0 16 + 1) = numW x.f0.f0 16 + 1 := by unfold wrap64; omega
  have e2 : wrap64 (numW x.f0.f1 8 + 1) = numW x.f0.f1 8 + 1 := by unfold wrap64; omega
  rw [e1, e2]
  exact ⟨by omega, by omega⟩
theorem loss_amt (x : S49) : amtB (absR x.f1 100000) = true := by
  have h := absR_rng x.f1 100000 (by omega) (by omega)
  unfold amtB
  exact decide_eq_true (by omega)
/-- The first i needs. -/
def needL (ns : List Int) : Nat → List Int
  | 0 => []
  | i + 1 => needL ns i ++ [absR (rd ns (i : Int)) 1000]
theorem needL_len (ns : List Int) : ∀ i : Nat, (needL ns i).length = i
  | 0 => rfl
  | i + 1 => by simp only [needL, List.length_append, needL_len ns i, List.length_cons, List.length_nil]
/-- A fund's size, whatever the needs. -/
def sizeA (k : Nat) (T : Int → Int → Int) (fl mo : Int) (ns : List Int) : Option (Int × Int × List Int) := if (ns.any fun n => decide (n > 0)) = true then sizeF k T fl mo ns else sizeZ k T fl mo ns
theorem SizeA.calls [Inhabited (Int → Addr)] (k bt : Nat) (T : Int → Int → Int) (fl mo : Int) (A3 : Option Addr) (c3 : Nat) (ns : List Int) (tg sc : Int) (sh : List Int) (w : World) (hG : GlobOK w) (hT : TbG bt T w) (hr3 : Kd.C (Kd.int .i64) w A3 ns.length ns) (hc3 : ns.length ≤ c3) (h : sizeA k T fl mo ns = some (tg, sc, sh)) :
    Calls Tryd.prog 11 #[.pointer (some ⟨bt, 0, none⟩), .int .i64 fl, .int .i64 mo, .slice A3 ns.length c3] w fun e w' => ∃ AS cS, e = .returned (.tuple #[.agg #[.int .i64 fl, .int .i64 mo, .int .i64 tg, .int .i64 sc, .slice AS sh.length cS], .nilIface]) ∧ Kd.R (Kd.int .i64) 2 w' w.heap.size (fun _ => True) (.slice AS sh.length cS) sh ∧ Below w.heap.size w w' := by
  unfold sizeA at h
  split at h
  · exact Size.calls k bt T fl mo A3 c3 ns tg sc sh w hG hT hr3 hc3 h
  · exact SizeZ.calls k bt T fl mo A3 c3 ns tg sc sh w hG hT hr3 hc3 h
/-- The sum of the first i shares. -/
def sumS (sh : List Int) : Nat → Int
  | 0 => 0
  | i + 1 => wrap64 (sumS sh i + rd sh (i : Int))
/-- What holds of a fund, its bounds and what it covers. -/
def fsOK (T : Int → Int → Int) (lo top : Int) (n : List Int) (z : Int × Int × List Int) : Prop := ∃ c, covL spF T n 16 1 0 1 = some (c, z.2.1) ∧ lo ≤ top ∧ z.1 = mn (mx c lo) top ∧ sumS z.2.2 z.2.2.length = z.1 ∧ z.2.2.length = n.length ∧ (fund_Calls.f [] z.2.2).bind (fun cl => pledgeref_SameLongs.f spF cl z.2.2) = some true
open Classical in
/-- The law's answer, where its facts hold. -/
noncomputable def pledgelaw24_FundSizes.f (l : List S49) (a1 a2 : Int) (ns : List Int) : Option Bool :=
  (pledgelaw24_first.f).bind fun t => if t = true then (if 30 < l.length ∨ 8 < ns.length ∨ ns.length = 0 then some true else
    (sizeA spF (tabL l l.length) (numW a1 100000) (wrap64 (numW a1 100000 + numW a2 100000)) (needL ns ns.length)).bind fun z =>
      if fsOK (tabL l l.length) (numW a1 100000) (wrap64 (numW a1 100000 + numW a2 100000)) (needL ns ns.length) z then some true else none) else some false
theorem at49 {w : World} {ad : Addr} {m i : Nat} {l : List S49} {x : S49} (h : Kd.C k49 w (some ad) m l) (hx : x = rd_T49 l (i : Int)) (hi : i < m) : w.cell? (ad.add (i * 3)) = some (.int .i64 x.f0.f0) ∧ w.cell? ⟨(ad.add (i * 3)).block, (ad.add (i * 3)).off + 1, none⟩ = some (.int .i64 x.f0.f1) := by
  obtain ⟨ad', e, h0, h1, _⟩ := at_T49 h (i : Int) (by omega) (by omega)
  cases e
  rw [Int.toNat_natCast] at h0 h1
  subst hx
  exact ⟨h0, h1⟩
set_option maxHeartbeats 8000000 in
set_option maxRecDepth 1000000 in
theorem pledgelaw24_FundSizes.calls [Inhabited (Int → Addr)] (A0 : Option Addr) (c0 : Nat) (l : List S49) (a1 a2 : Int) (A3 : Option Addr) (c3 : Nat) (ns : List Int) (r : Bool) (w : World) (hG : GlobOK w) (hr0 : Kd.C k49 w A0 l.length l) (hc0 : l.length ≤ c0) (hr3 : Kd.C (Kd.int .i64) w A3 ns.length ns) (hc3 : ns.length ≤ c3) (h : pledgelaw24_FundSizes.f l a1 a2 ns = some r) :
    Calls Tryd.prog 6 #[.slice A0 l.length c0, .int .i64 a1, .int .i64 a2, .slice A3 ns.length c3] w fun e w' => e = .returned (.bool r) ∧ Below w.heap.size w w' := by
  have hu1 := Tryd.underlying35
  have hu2 := Tryd.underlying33
  have hu3 := Tryd.underlying47
  have hu4 := Tryd.underlying49
  have HG := Aside0.mk hG
  have HM0 := Aside0.mk hr0
  have HC0 := Aside0.mk hc0
  have HM := Aside0.mk hr3
  have HMC := Aside0.mk hc3
  have HB := Aside0.mk (Below.refl w.heap.size w)
  clear hG hr0 hc0 hr3 hc3
  unfold pledgelaw24_FundSizes.f at h
  obtain ⟨t, h1, h⟩ := Option.bind_eq_some_iff.mp h
  have H1 := Aside0.mk h1
  clear h1
  cases t with
  | false =>
    rw [if_neg (by simp)] at h
    obtain rfl := Option.some.inj h
    clear h
    go_enter Tryd.func6, Tryd.ntmps6
    go_wp2_with (go_at_call 7; refine (pledgelaw24_first.calls false _ (HG.out.below HB.out) H1.out).mono ?_; rintro e w_ ⟨rfl, hb⟩; have n_ := Aside0.mk (below_step HB.out hb); clear HB; have HB := n_; clear n_; clear hb)
    go_ret
    exact ⟨rfl, HB.out⟩
  | true =>
    rw [if_pos rfl] at h
    by_cases h30 : 30 < l.length
    · rw [if_pos (Or.inl h30)] at h
      obtain rfl := Option.some.inj h
      have cb0 : decide ((l.length : Int) > 30) = true := decide_eq_true (by omega)
      clear h h30
      go_enter Tryd.func6, Tryd.ntmps6
      go_wp2_with (go_at_call 7; refine (pledgelaw24_first.calls true _ (HG.out.below HB.out) H1.out).mono ?_; rintro e w_ ⟨rfl, hb⟩; have n_ := Aside0.mk (below_step HB.out hb); clear HB; have HB := n_; clear n_; clear hb)
      go_ret
      exact ⟨rfl, HB.out⟩
    have cb0 : decide ((l.length : Int) > 30) = false := decide_eq_false (by omega)
    by_cases h8 : 8 < ns.length
    · rw [if_pos (Or.inr (Or.inl h8))] at h
      obtain rfl := Option.some.inj h
      have cbm : decide ((ns.length : Int) > 8) = true := decide_eq_true (by omega)
      clear h h30 h8
      go_enter Tryd.func6, Tryd.ntmps6
      go_wp2_with (go_at_call 7; refine (pledgelaw24_first.calls true _ (HG.out.below HB.out) H1.out).mono ?_; rintro e w_ ⟨rfl, hb⟩; have n_ := Aside0.mk (below_step HB.out hb); clear HB; have HB := n_; clear n_; clear hb)
      go_ret
      exact ⟨rfl, HB.out⟩
    have cbm : decide ((ns.length : Int) > 8) = false := decide_eq_false (by omega)
    by_cases h0 : ns.length = 0
    · rw [if_pos (Or.inr (Or.inr h0))] at h
      obtain rfl := Option.some.inj h
      have cbz : ((ns.length : Int) == 0) = true := beq_iff_eq.mpr (by omega)
      have cby : (ns.length == 0) = true := beq_iff_eq.mpr h0
      have cbx : (ns.length = 0) = True := eq_true h0
      clear h h30 h8 h0
      go_enter Tryd.func6, Tryd.ntmps6
      go_wp2_with (go_at_call 7; refine (pledgelaw24_first.calls true _ (HG.out.below HB.out) H1.out).mono ?_; rintro e w_ ⟨rfl, hb⟩; have n_ := Aside0.mk (below_step HB.out hb); clear HB; have HB := n_; clear n_; clear hb)
      go_ret
      exact ⟨rfl, HB.out⟩
    have cbz : ((ns.length : Int) == 0) = false := beq_false_of_ne (by omega)
    have cby : (ns.length == 0) = false := beq_false_of_ne h0
    have cbx : (ns.length = 0) = False := eq_false h0
    rw [if_neg (by omega)] at h
    obtain ⟨⟨tg, sc, sh⟩, hz, h⟩ := Option.bind_eq_some_iff.mp h
    by_cases hok : fsOK (tabL l l.length) (numW a1 100000) (wrap64 (numW a1 100000 + numW a2 100000)) (needL ns ns.length) (tg, sc, sh)
    rotate_left
    · rw [if_neg hok] at h; exact absurd h (by simp)
    rw [if_pos hok] at h
    obtain rfl := Option.some.inj h
    have H30 := Aside0.mk (show l.length ≤ 30 by omega)
    have H8 := Aside0.mk (show ns.length ≤ 8 by omega)
    have HF := Aside0.mk (And.intro hz hok)
    clear h h30 h8 h0 hz hok
    go_enter Tryd.func6, Tryd.ntmps6
    go_wp2_with (first
      | (go_at_call 7; refine (pledgelaw24_first.calls true _ (HG.out.below HB.out) H1.out).mono ?_; rintro e w_ ⟨rfl, hb⟩; have n_ := Aside0.mk (below_step HB.out hb); clear HB; have HB := n_; clear n_; clear hb)
      | ((with_reducible refine gate_dst (N := 10) rfl ?_); refine box_event ?hg (N := 10) ?hd (cs := #[.map none]) (t := 33) ?hr ?_; (case hd => rfl); (case hg => rfl); (case hr => first | (go_simp; done) | (go_simp; rfl)); intro bt hg_ w_ hbox hb; have HBT := Aside0.mk (show w.heap.size ≤ bt from Nat.le_trans (below_size HB.out) (Nat.le_of_eq hg_.symm)); have n_ := Aside0.mk (below_step HB.out hb); clear HB; have HB := n_; clear n_; have BTB := Aside0.mk hbox; clear hb hbox hg_))
    clear cb0 cbm cbz cby cbx
    have HTM : Aside0 (TbM bt w.heap.size 0 (tabL l 0) w_) := ⟨Or.inl ⟨BTB.out, fun _ _ => rfl⟩⟩
    clear BTB
    go_loopg [11] l.length (fun gq v11 wr => ∃ (i : Nat), v11 = .int .i64 i ∧ Aside0 (i ≤ l.length) ∧ Aside0 (l.length ≤ gq + i) ∧ Aside0 (Below w.heap.size w wr) ∧ Aside0 (TbM bt w.heap.size i (tabL l i) wr))
    case atStart => exact ⟨0, rfl, ⟨by omega⟩, ⟨by omega⟩, HB, HTM⟩
    case round =>
      clear HB HTM
      obtain ⟨i, rfl, HI, HKI, HB, HTM⟩ := hrel
      by_cases hlt : i < l.length
      · have cb1 : decide ((i : Int) < (l.length : Int)) = true := decide_eq_true (by omega)
        have cb2 : ((i : Int) < (l.length : Int)) = True := eq_true (by omega)
        have cb3 : (i < l.length) = True := eq_true (by omega)
        have cb4 : decide (i < l.length) = true := decide_eq_true (by omega)
        have HLI := Aside0.mk hlt
        have HW : Aside0 (wrap64 ((i : Int) + 1) = ((i + 1 : Nat) : Int)) := ⟨by have := H30.out; unfold wrap64; omega⟩
        obtain ⟨ad, eA, hx0, hx1, hx2⟩ := at_T49 (Kd.C_below HM0.out HB.out) (i : Int) (by omega) (by omega)
        subst eA
        rw [Int.toNat_natCast] at hx0 hx1 hx2
        obtain ⟨x, hxe⟩ : ∃ x, x = rd_T49 l (i : Int) := ⟨_, rfl⟩
        rw [← hxe] at hx0 hx1 hx2
        have HX := Aside0.mk hxe
        clear hlt hxe
        by_cases hneg : Int.tmod x.f1 100000 < 0
        · have HAB := Aside0.mk (show absR x.f1 100000 = wrap64 (-(Int.tmod x.f1 100000)) by unfold absR; rw [if_pos hneg])
          have HAM := Aside0.mk (show amtB (wrap64 (-(Int.tmod x.f1 100000))) = true by rw [← HAB.out]; exact loss_amt x)
          have cb5 : decide (Int.tmod x.f1 100000 < 0) = true := decide_eq_true hneg
          clear hneg
          go_wp2
          refine start_ (n := 19) (S := fun w' => w'.cell? (ad.add (i * 3)) = some (.int .i64 x.f0.f0) ∧ w'.cell? ⟨(ad.add (i * 3)).block, (ad.add (i * 3)).off + 1, none⟩ = some (.int .i64 x.f0.f1)) (ds := []) #[false, false, false, false, false, false, false, false, false, false, false, false, false, false, false, false, false, false, false] (by kernel_rfl) rfl rfl ⟨hx0, hx1⟩ (fun hHeld => ?_)
          have n1_ := Aside0.mk (Below.drew HB.out)
          have n2_ := Aside0.mk (HTM.out.below (Below.drew (Below.refl _ _)))
          clear HB HTM hx0 hx1 hx2
          have HB := n1_
          have HTM := n2_
          clear n1_ n2_
          generalize wr.drew = w6 at HB HTM hHeld ⊢
          refine pure_ (i := 0) (N := some 63) (v := ?_) (a' := ?_) #[true, false, false, false, false, false, false, false, false, false, false, false, false, false, false, false, false, false, false] rfl rfl (by kernel_rfl) (fun _ _ _ h => h) (Or.inl ⟨by rfl, ?_⟩) ?_ ?_
          rotate_left
          · intro w'
            go_simp
            with_reducible rfl
          rotate_left
          · simp only [Act.put, List.setIfInBounds_toArray, List.set_cons_zero, List.set_cons_succ, i64_w, i32_w]
            rfl
          refine pure_ (i := 1) (N := some 64) (v := ?_) (a' := ?_) #[true, true, false, false, false, false, false, false, false, false, false, false, false, false, false, false, false, false, false] rfl rfl (by kernel_rfl) (fun _ _ _ h => h) (Or.inl ⟨by rfl, ?_⟩) ?_ ?_
          rotate_left
          · intro w'
            go_simp
            with_reducible rfl
          rotate_left
          · simp only [Act.put, List.setIfInBounds_toArray, List.set_cons_zero, List.set_cons_succ, i64_w, i32_w]
            rfl
          refine pure_ (i := 2) (N := some 65) (v := ?_) (a' := ?_) #[true, true, true, false, false, false, false, false, false, false, false, false, false, false, false, false, false, false, false] rfl rfl (by kernel_rfl) (fun _ _ _ h => h) (Or.inl ⟨by rfl, ?_⟩) ?_ ?_
          rotate_left
          · intro w'
            go_simp
            with_reducible rfl
          rotate_left
          · simp only [Act.put, List.setIfInBounds_toArray, List.set_cons_zero, List.set_cons_succ, i64_w, i32_w]
            rfl
          refine pure_ (i := 3) (N := some 66) (v := ?_) (a' := ?_) #[true, true, true, true, false, false, false, false, false, false, false, false, false, false, false, false, false, false, false] rfl rfl (by kernel_rfl) (fun _ _ _ h => h) (Or.inl ⟨by rfl, ?_⟩) ?_ ?_
          rotate_left
          · intro w'
            go_simp
            with_reducible rfl
          rotate_left
          · simp only [Act.put, List.setIfInBounds_toArray, List.set_cons_zero, List.set_cons_succ, i64_w, i32_w]
            rfl
          refine pure_ (i := 4) (N := some 67) (v := ?_) (a' := ?_) #[true, true, true, true, true, false, false, false, false, false, false, false, false, false, false, false, false, false, false] rfl rfl (by kernel_rfl) (fun _ _ _ h => h) (Or.inl ⟨by rfl, ?_⟩) ?_ ?_
          rotate_left
          · intro w'
            go_simp
            with_reducible rfl
          rotate_left
          · simp only [Act.put, List.setIfInBounds_toArray, List.set_cons_zero, List.set_cons_succ, i64_w, i32_w]
            rfl
          refine take_ (i := 5) (N := some 68) (v := ?_) (a' := ?_) #[true, true, true, true, true, true, false, false, false, false, false, false, false, false, false, false, false, false, false] rfl rfl (by kernel_rfl) (fun _ _ _ h => h) (Or.inl ⟨by rfl, ?_⟩) hHeld ?_ ?_
          rotate_left
          · intro w' ⟨s0, s1⟩
            go_simp
            with_reducible rfl
          rotate_left
          · simp only [Act.put, List.setIfInBounds_toArray, List.set_cons_zero, List.set_cons_succ, i64_w, i32_w]
            rfl
          refine pure_ (i := 8) (N := some 71) (v := ?_) (a' := ?_) #[true, true, true, true, true, true, false, false, true, false, false, false, false, false, false, false, false, false, false] rfl rfl (by kernel_rfl) (fun _ _ _ h => h) (Or.inl ⟨by rfl, ?_⟩) ?_ ?_
          rotate_left
          · intro w'
            go_simp
            with_reducible rfl
          rotate_left
          · simp only [Act.put, List.setIfInBounds_toArray, List.set_cons_zero, List.set_cons_succ, i64_w, i32_w]
            rfl
          refine pure_ (i := 9) (N := some 72) (v := ?_) (a' := ?_) #[true, true, true, true, true, true, false, false, true, true, false, false, false, false, false, false, false, false, false] rfl rfl (by kernel_rfl) (fun _ _ _ h => h) (Or.inl ⟨by rfl, ?_⟩) ?_ ?_
          rotate_left
          · intro w'
            go_simp
            with_reducible rfl
          rotate_left
          · simp only [Act.put, List.setIfInBounds_toArray, List.set_cons_zero, List.set_cons_succ, i64_w, i32_w]
            rfl
          refine pure_ (i := 10) (N := some 73) (v := ?_) (a' := ?_) #[true, true, true, true, true, true, false, false, true, true, true, false, false, false, false, false, false, false, false] rfl rfl (by kernel_rfl) (fun _ _ _ h => h) (Or.inl ⟨by rfl, ?_⟩) ?_ ?_
          rotate_left
          · intro w'
            go_simp
            with_reducible rfl
          rotate_left
          · simp only [Act.put, List.setIfInBounds_toArray, List.set_cons_zero, List.set_cons_succ, i64_w, i32_w]
            rfl
          refine pure_ (i := 11) (N := some 74) (v := ?_) (a' := ?_) #[true, true, true, true, true, true, false, false, true, true, true, true, false, false, false, false, false, false, false] rfl rfl (by kernel_rfl) (fun _ _ _ h => h) (Or.inl ⟨by rfl, ?_⟩) ?_ ?_
          rotate_left
          · intro w'
            go_simp
            with_reducible rfl
          rotate_left
          · simp only [Act.put, List.setIfInBounds_toArray, List.set_cons_zero, List.set_cons_succ, i64_w, i32_w]
            rfl
          refine pure_ (i := 12) (N := some 75) (v := ?_) (a' := ?_) #[true, true, true, true, true, true, false, false, true, true, true, true, true, false, false, false, false, false, false] rfl rfl (by kernel_rfl) (fun _ _ _ h => h) (Or.inl ⟨by rfl, ?_⟩) ?_ ?_
          rotate_left
          · intro w'
            go_simp
            with_reducible rfl
          rotate_left
          · simp only [Act.put, List.setIfInBounds_toArray, List.set_cons_zero, List.set_cons_succ, i64_w, i32_w]
            rfl
          refine take_ (i := 13) (N := some 76) (v := ?_) (a' := ?_) #[true, true, true, true, true, true, false, false, true, true, true, true, true, true, false, false, false, false, false] rfl rfl (by kernel_rfl) (fun _ _ _ h => h) (Or.inl ⟨by rfl, ?_⟩) hHeld ?_ ?_
          rotate_left
          · intro w' ⟨s0, s1⟩
            go_simp
            with_reducible rfl
          rotate_left
          · simp only [Act.put, List.setIfInBounds_toArray, List.set_cons_zero, List.set_cons_succ, i64_w, i32_w]
            rfl
          refine pure_ (i := 17) (N := some 80) (v := ?_) (a' := ?_) #[true, true, true, true, true, true, false, false, true, true, true, true, true, true, false, false, false, true, false] rfl rfl (by kernel_rfl) (fun _ _ _ h => h) (Or.inl ⟨by rfl, ?_⟩) ?_ ?_
          rotate_left
          · intro w'
            go_simp
            with_reducible rfl
          rotate_left
          · simp only [Act.put, List.setIfInBounds_toArray, List.set_cons_zero, List.set_cons_succ, i64_w, i32_w]
            rfl
          refine one_ (i := 6) (N := some 69) #[true, true, true, true, true, true, true, false, true, true, true, true, true, true, false, false, false, true, false] rfl rfl (by kernel_rfl) (by decide) (fun K hK => ?_)
          refine goes_ Tryd.func17 (by kernel_rfl) rfl #[.int .i64 x.f0.f0, .int .i64 16] (by rfl) rfl rfl (by (try simp only [List.map_toArray, List.map_cons, List.map_nil]); first | done | rfl) ?_
          have hN := fun W_ => pledgeworld_Number.calls x.f0.f0 16 (numW x.f0.f0 16) W_ (numW_f _ 16 (by omega))
          with_reducible refine (hN _).mono ?_
          clear hN
          rintro e w7 ⟨rfl, hd⟩
          have hb := hd.below
          clear hHeld
          have n0_ := Aside0.mk (HTM.out.below hb)
          have n1_ := Aside0.mk (below_step HB.out hb)
          clear HTM HB
          have HTM := n0_
          have HB := n1_
          clear n0_ n1_
          clear hb hd
          refine ⟨_, rfl, ?_⟩
          refine hK.out _ _ (at49 (Kd.C_below HM0.out HB.out) HX.out HLI.out) (fun hHeld => ?_)
          clear hK K
          refine norm_ (a' := ?_) ?_ ?_
          rotate_left
          · show Act.put _ (some 69) _ = _
            simp only [Act.put, List.setIfInBounds_toArray, List.set_cons_zero, List.set_cons_succ, i64_w, i32_w]
            rfl
          refine pure_ (i := 7) (N := some 70) (v := ?_) (a' := ?_) #[true, true, true, true, true, true, true, true, true, true, true, true, true, true, false, false, false, true, false] rfl rfl (by kernel_rfl) (fun _ _ _ h => h) (Or.inl ⟨by rfl, ?_⟩) ?_ ?_
          rotate_left
          · intro w'
            go_simp
            with_reducible rfl
          rotate_left
          · simp only [Act.put, List.setIfInBounds_toArray, List.set_cons_zero, List.set_cons_succ, i64_w, i32_w]
            rfl
          refine one_ (i := 14) (N := some 77) #[true, true, true, true, true, true, true, true, true, true, true, true, true, true, true, false, false, true, false] rfl rfl (by kernel_rfl) (by decide) (fun K hK => ?_)
          refine goes_ Tryd.func17 (by kernel_rfl) rfl #[.int .i64 x.f0.f1, .int .i64 8] (by rfl) rfl rfl (by (try simp only [List.map_toArray, List.map_cons, List.map_nil]); first | done | rfl) ?_
          have hN := fun W_ => pledgeworld_Number.calls x.f0.f1 8 (numW x.f0.f1 8) W_ (numW_f _ 8 (by omega))
          with_reducible refine (hN _).mono ?_
          clear hN
          rintro e w8 ⟨rfl, hd⟩
          have hb := hd.below
          clear hHeld
          have n0_ := Aside0.mk (HTM.out.below hb)
          have n1_ := Aside0.mk (below_step HB.out hb)
          clear HTM HB
          have HTM := n0_
          have HB := n1_
          clear n0_ n1_
          clear hb hd
          refine ⟨_, rfl, ?_⟩
          refine hK.out _ _ (at49 (Kd.C_below HM0.out HB.out) HX.out HLI.out) (fun hHeld => ?_)
          clear hK K
          refine norm_ (a' := ?_) ?_ ?_
          rotate_left
          · show Act.put _ (some 77) _ = _
            simp only [Act.put, List.setIfInBounds_toArray, List.set_cons_zero, List.set_cons_succ, i64_w, i32_w]
            rfl
          refine pure_ (i := 15) (N := some 78) (v := ?_) (a' := ?_) #[true, true, true, true, true, true, true, true, true, true, true, true, true, true, true, true, false, true, false] rfl rfl (by kernel_rfl) (fun _ _ _ h => h) (Or.inl ⟨by rfl, ?_⟩) ?_ ?_
          rotate_left
          · intro w'
            go_simp
            with_reducible rfl
          rotate_left
          · simp only [Act.put, List.setIfInBounds_toArray, List.set_cons_zero, List.set_cons_succ, i64_w, i32_w]
            rfl
          refine pure_ (i := 16) (N := some 79) (v := ?_) (a' := ?_) #[true, true, true, true, true, true, true, true, true, true, true, true, true, true, true, true, true, true, false] rfl rfl (by kernel_rfl) (fun _ _ _ h => h) (Or.inl ⟨by rfl, ?_⟩) ?_ ?_
          rotate_left
          · intro w'
            go_simp
            with_reducible rfl
          rotate_left
          · simp only [Act.put, List.setIfInBounds_toArray, List.set_cons_zero, List.set_cons_succ, i64_w, i32_w]
            rfl
          refine one_ (i := 18) (N := some 81) #[true, true, true, true, true, true, true, true, true, true, true, true, true, true, true, true, true, true, true] rfl rfl (by kernel_rfl) (by decide) (fun K hK => ?_)
          refine goes_ Tryd.func12 (by kernel_rfl) rfl #[.pointer (some ⟨bt, 0, none⟩), .agg #[.int .i64 (wrap64 (numW x.f0.f0 16 + 1)), .int .i64 (wrap64 (numW x.f0.f1 8 + 1))], .int .i64 (wrap64 (-(Int.tmod x.f1 100000)))] (by rfl) rfl rfl (by (try simp only [List.map_toArray, List.map_cons, List.map_nil]); first | done | rfl) ?_
          have hN := fun W_ hG_ hT_ hs_ => Set.calls bt w.heap.size i (tabL l i) (wrap64 (numW x.f0.f0 16 + 1)) (wrap64 (numW x.f0.f1 8 + 1)) (wrap64 (-(Int.tmod x.f1 100000))) W_ hG_ hT_ HBT.out hs_ (by have := HLI.out; have := H30.out; omega) (cell_rg x) HAM.out
          with_reducible refine (hN _ (HG.out.below HB.out) HTM.out (below_size HB.out)).mono ?_
          clear hN
          rintro e w9 ⟨rfl, htm, hb⟩
          have n1_ := Aside0.mk (HB.out.trans hb)
          have n2_ := Aside0.mk htm
          clear HB HTM hb htm hHeld
          have HB := n1_
          have HTM := n2_
          clear n1_ n2_
          refine ⟨_, rfl, ?_⟩
          refine hK.out _ _ (at49 (Kd.C_below HM0.out HB.out) HX.out HLI.out) (fun hHeld => ?_)
          clear hK K hHeld
          refine norm_ (a' := ?_) ?_ ?_
          rotate_left
          · show Act.put _ (some 81) _ = _
            simp only [Act.put, List.setIfInBounds_toArray, List.set_cons_zero, List.set_cons_succ, i64_w, i32_w]
            rfl
          refine done_ (by kernel_rfl) ?_
          go_wp2
          go_roundg (l.length - (i + 1))
          case measure => have := HKI.out; have := HLI.out; omega
          case rel => exact ⟨i + 1, by first | rw [HW.out] | rfl, ⟨by have := HLI.out; omega⟩, ⟨by have := HLI.out; omega⟩, HB, ⟨by have h_ := HTM.out; rw [← HAB.out] at h_; have e_ := HX.out; subst e_; exact h_⟩⟩
        · have HAB := Aside0.mk (show absR x.f1 100000 = Int.tmod x.f1 100000 by unfold absR; rw [if_neg hneg])
          have HAM := Aside0.mk (show amtB (Int.tmod x.f1 100000) = true by rw [← HAB.out]; exact loss_amt x)
          have cb5 : decide (Int.tmod x.f1 100000 < 0) = false := decide_eq_false hneg
          clear hneg
          go_wp2
          refine start_ (n := 19) (S := fun w' => w'.cell? (ad.add (i * 3)) = some (.int .i64 x.f0.f0) ∧ w'.cell? ⟨(ad.add (i * 3)).block, (ad.add (i * 3)).off + 1, none⟩ = some (.int .i64 x.f0.f1)) (ds := []) #[false, false, false, false, false, false, false, false, false, false, false, false, false, false, false, false, false, false, false] (by kernel_rfl) rfl rfl ⟨hx0, hx1⟩ (fun hHeld => ?_)
          have n1_ := Aside0.mk (Below.drew HB.out)
          have n2_ := Aside0.mk (HTM.out.below (Below.drew (Below.refl _ _)))
          clear HB HTM hx0 hx1 hx2
          have HB := n1_
          have HTM := n2_
          clear n1_ n2_
          generalize wr.drew = w6 at HB HTM hHeld ⊢
          refine pure_ (i := 0) (N := some 63) (v := ?_) (a' := ?_) #[true, false, false, false, false, false, false, false, false, false, false, false, false, false, false, false, false, false, false] rfl rfl (by kernel_rfl) (fun _ _ _ h => h) (Or.inl ⟨by rfl, ?_⟩) ?_ ?_
          rotate_left
          · intro w'
            go_simp
            with_reducible rfl
          rotate_left
          · simp only [Act.put, List.setIfInBounds_toArray, List.set_cons_zero, List.set_cons_succ, i64_w, i32_w]
            rfl
          refine pure_ (i := 1) (N := some 64) (v := ?_) (a' := ?_) #[true, true, false, false, false, false, false, false, false, false, false, false, false, false, false, false, false, false, false] rfl rfl (by kernel_rfl) (fun _ _ _ h => h) (Or.inl ⟨by rfl, ?_⟩) ?_ ?_
          rotate_left
          · intro w'
            go_simp
            with_reducible rfl
          rotate_left
          · simp only [Act.put, List.setIfInBounds_toArray, List.set_cons_zero, List.set_cons_succ, i64_w, i32_w]
            rfl
          refine pure_ (i := 2) (N := some 65) (v := ?_) (a' := ?_) #[true, true, true, false, false, false, false, false, false, false, false, false, false, false, false, false, false, false, false] rfl rfl (by kernel_rfl) (fun _ _ _ h => h) (Or.inl ⟨by rfl, ?_⟩) ?_ ?_
          rotate_left
          · intro w'
            go_simp
            with_reducible rfl
          rotate_left
          · simp only [Act.put, List.setIfInBounds_toArray, List.set_cons_zero, List.set_cons_succ, i64_w, i32_w]
            rfl
          refine pure_ (i := 3) (N := some 66) (v := ?_) (a' := ?_) #[true, true, true, true, false, false, false, false, false, false, false, false, false, false, false, false, false, false, false] rfl rfl (by kernel_rfl) (fun _ _ _ h => h) (Or.inl ⟨by rfl, ?_⟩) ?_ ?_
          rotate_left
          · intro w'
            go_simp
            with_reducible rfl
          rotate_left
          · simp only [Act.put, List.setIfInBounds_toArray, List.set_cons_zero, List.set_cons_succ, i64_w, i32_w]
            rfl
          refine pure_ (i := 4) (N := some 67) (v := ?_) (a' := ?_) #[true, true, true, true, true, false, false, false, false, false, false, false, false, false, false, false, false, false, false] rfl rfl (by kernel_rfl) (fun _ _ _ h => h) (Or.inl ⟨by rfl, ?_⟩) ?_ ?_
          rotate_left
          · intro w'
            go_simp
            with_reducible rfl
          rotate_left
          · simp only [Act.put, List.setIfInBounds_toArray, List.set_cons_zero, List.set_cons_succ, i64_w, i32_w]
            rfl
          refine take_ (i := 5) (N := some 68) (v := ?_) (a' := ?_) #[true, true, true, true, true, true, false, false, false, false, false, false, false, false, false, false, false, false, false] rfl rfl (by kernel_rfl) (fun _ _ _ h => h) (Or.inl ⟨by rfl, ?_⟩) hHeld ?_ ?_
          rotate_left
          · intro w' ⟨s0, s1⟩
            go_simp
            with_reducible rfl
          rotate_left
          · simp only [Act.put, List.setIfInBounds_toArray, List.set_cons_zero, List.set_cons_succ, i64_w, i32_w]
            rfl
          refine pure_ (i := 8) (N := some 71) (v := ?_) (a' := ?_) #[true, true, true, true, true, true, false, false, true, false, false, false, false, false, false, false, false, false, false] rfl rfl (by kernel_rfl) (fun _ _ _ h => h) (Or.inl ⟨by rfl, ?_⟩) ?_ ?_
          rotate_left
          · intro w'
            go_simp
            with_reducible rfl
          rotate_left
          · simp only [Act.put, List.setIfInBounds_toArray, List.set_cons_zero, List.set_cons_succ, i64_w, i32_w]
            rfl
          refine pure_ (i := 9) (N := some 72) (v := ?_) (a' := ?_) #[true, true, true, true, true, true, false, false, true, true, false, false, false, false, false, false, false, false, false] rfl rfl (by kernel_rfl) (fun _ _ _ h => h) (Or.inl ⟨by rfl, ?_⟩) ?_ ?_
          rotate_left
          · intro w'
            go_simp
            with_reducible rfl
          rotate_left
          · simp only [Act.put, List.setIfInBounds_toArray, List.set_cons_zero, List.set_cons_succ, i64_w, i32_w]
            rfl
          refine pure_ (i := 10) (N := some 73) (v := ?_) (a' := ?_) #[true, true, true, true, true, true, false, false, true, true, true, false, false, false, false, false, false, false, false] rfl rfl (by kernel_rfl) (fun _ _ _ h => h) (Or.inl ⟨by rfl, ?_⟩) ?_ ?_
          rotate_left
          · intro w'
            go_simp
            with_reducible rfl
          rotate_left
          · simp only [Act.put, List.setIfInBounds_toArray, List.set_cons_zero, List.set_cons_succ, i64_w, i32_w]
            rfl
          refine pure_ (i := 11) (N := some 74) (v := ?_) (a' := ?_) #[true, true, true, true, true, true, false, false, true, true, true, true, false, false, false, false, false, false, false] rfl rfl (by kernel_rfl) (fun _ _ _ h => h) (Or.inl ⟨by rfl, ?_⟩) ?_ ?_
          rotate_left
          · intro w'
            go_simp
            with_reducible rfl
          rotate_left
          · simp only [Act.put, List.setIfInBounds_toArray, List.set_cons_zero, List.set_cons_succ, i64_w, i32_w]
            rfl
          refine pure_ (i := 12) (N := some 75) (v := ?_) (a' := ?_) #[true, true, true, true, true, true, false, false, true, true, true, true, true, false, false, false, false, false, false] rfl rfl (by kernel_rfl) (fun _ _ _ h => h) (Or.inl ⟨by rfl, ?_⟩) ?_ ?_
          rotate_left
          · intro w'
            go_simp
            with_reducible rfl
          rotate_left
          · simp only [Act.put, List.setIfInBounds_toArray, List.set_cons_zero, List.set_cons_succ, i64_w, i32_w]
            rfl
          refine take_ (i := 13) (N := some 76) (v := ?_) (a' := ?_) #[true, true, true, true, true, true, false, false, true, true, true, true, true, true, false, false, false, false, false] rfl rfl (by kernel_rfl) (fun _ _ _ h => h) (Or.inl ⟨by rfl, ?_⟩) hHeld ?_ ?_
          rotate_left
          · intro w' ⟨s0, s1⟩
            go_simp
            with_reducible rfl
          rotate_left
          · simp only [Act.put, List.setIfInBounds_toArray, List.set_cons_zero, List.set_cons_succ, i64_w, i32_w]
            rfl
          refine pure_ (i := 17) (N := some 80) (v := ?_) (a' := ?_) #[true, true, true, true, true, true, false, false, true, true, true, true, true, true, false, false, false, true, false] rfl rfl (by kernel_rfl) (fun _ _ _ h => h) (Or.inl ⟨by rfl, ?_⟩) ?_ ?_
          rotate_left
          · intro w'
            go_simp
            with_reducible rfl
          rotate_left
          · simp only [Act.put, List.setIfInBounds_toArray, List.set_cons_zero, List.set_cons_succ, i64_w, i32_w]
            rfl
          refine one_ (i := 6) (N := some 69) #[true, true, true, true, true, true, true, false, true, true, true, true, true, true, false, false, false, true, false] rfl rfl (by kernel_rfl) (by decide) (fun K hK => ?_)
          refine goes_ Tryd.func17 (by kernel_rfl) rfl #[.int .i64 x.f0.f0, .int .i64 16] (by rfl) rfl rfl (by (try simp only [List.map_toArray, List.map_cons, List.map_nil]); first | done | rfl) ?_
          have hN := fun W_ => pledgeworld_Number.calls x.f0.f0 16 (numW x.f0.f0 16) W_ (numW_f _ 16 (by omega))
          with_reducible refine (hN _).mono ?_
          clear hN
          rintro e w7 ⟨rfl, hd⟩
          have hb := hd.below
          clear hHeld
          have n0_ := Aside0.mk (HTM.out.below hb)
          have n1_ := Aside0.mk (below_step HB.out hb)
          clear HTM HB
          have HTM := n0_
          have HB := n1_
          clear n0_ n1_
          clear hb hd
          refine ⟨_, rfl, ?_⟩
          refine hK.out _ _ (at49 (Kd.C_below HM0.out HB.out) HX.out HLI.out) (fun hHeld => ?_)
          clear hK K
          refine norm_ (a' := ?_) ?_ ?_
          rotate_left
          · show Act.put _ (some 69) _ = _
            simp only [Act.put, List.setIfInBounds_toArray, List.set_cons_zero, List.set_cons_succ, i64_w, i32_w]
            rfl
          refine pure_ (i := 7) (N := some 70) (v := ?_) (a' := ?_) #[true, true, true, true, true, true, true, true, true, true, true, true, true, true, false, false, false, true, false] rfl rfl (by kernel_rfl) (fun _ _ _ h => h) (Or.inl ⟨by rfl, ?_⟩) ?_ ?_
          rotate_left
          · intro w'
            go_simp
            with_reducible rfl
          rotate_left
          · simp only [Act.put, List.setIfInBounds_toArray, List.set_cons_zero, List.set_cons_succ, i64_w, i32_w]
            rfl
          refine one_ (i := 14) (N := some 77) #[true, true, true, true, true, true, true, true, true, true, true, true, true, true, true, false, false, true, false] rfl rfl (by kernel_rfl) (by decide) (fun K hK => ?_)
          refine goes_ Tryd.func17 (by kernel_rfl) rfl #[.int .i64 x.f0.f1, .int .i64 8] (by rfl) rfl rfl (by (try simp only [List.map_toArray, List.map_cons, List.map_nil]); first | done | rfl) ?_
          have hN := fun W_ => pledgeworld_Number.calls x.f0.f1 8 (numW x.f0.f1 8) W_ (numW_f _ 8 (by omega))
          with_reducible refine (hN _).mono ?_
          clear hN
          rintro e w8 ⟨rfl, hd⟩
          have hb := hd.below
          clear hHeld
          have n0_ := Aside0.mk (HTM.out.below hb)
          have n1_ := Aside0.mk (below_step HB.out hb)
          clear HTM HB
          have HTM := n0_
          have HB := n1_
          clear n0_ n1_
          clear hb hd
          refine ⟨_, rfl, ?_⟩
          refine hK.out _ _ (at49 (Kd.C_below HM0.out HB.out) HX.out HLI.out) (fun hHeld => ?_)
          clear hK K
          refine norm_ (a' := ?_) ?_ ?_
          rotate_left
          · show Act.put _ (some 77) _ = _
            simp only [Act.put, List.setIfInBounds_toArray, List.set_cons_zero, List.set_cons_succ, i64_w, i32_w]
            rfl
          refine pure_ (i := 15) (N := some 78) (v := ?_) (a' := ?_) #[true, true, true, true, true, true, true, true, true, true, true, true, true, true, true, true, false, true, false] rfl rfl (by kernel_rfl) (fun _ _ _ h => h) (Or.inl ⟨by rfl, ?_⟩) ?_ ?_
          rotate_left
          · intro w'
            go_simp
            with_reducible rfl
          rotate_left
          · simp only [Act.put, List.setIfInBounds_toArray, List.set_cons_zero, List.set_cons_succ, i64_w, i32_w]
            rfl
          refine pure_ (i := 16) (N := some 79) (v := ?_) (a' := ?_) #[true, true, true, true, true, true, true, true, true, true, true, true, true, true, true, true, true, true, false] rfl rfl (by kernel_rfl) (fun _ _ _ h => h) (Or.inl ⟨by rfl, ?_⟩) ?_ ?_
          rotate_left
          · intro w'
            go_simp
            with_reducible rfl
          rotate_left
          · simp only [Act.put, List.setIfInBounds_toArray, List.set_cons_zero, List.set_cons_succ, i64_w, i32_w]
            rfl
          refine one_ (i := 18) (N := some 81) #[true, true, true, true, true, true, true, true, true, true, true, true, true, true, true, true, true, true, true] rfl rfl (by kernel_rfl) (by decide) (fun K hK => ?_)
          refine goes_ Tryd.func12 (by kernel_rfl) rfl #[.pointer (some ⟨bt, 0, none⟩), .agg #[.int .i64 (wrap64 (numW x.f0.f0 16 + 1)), .int .i64 (wrap64 (numW x.f0.f1 8 + 1))], .int .i64 (Int.tmod x.f1 100000)] (by rfl) rfl rfl (by (try simp only [List.map_toArray, List.map_cons, List.map_nil]); first | done | rfl) ?_
          have hN := fun W_ hG_ hT_ hs_ => Set.calls bt w.heap.size i (tabL l i) (wrap64 (numW x.f0.f0 16 + 1)) (wrap64 (numW x.f0.f1 8 + 1)) (Int.tmod x.f1 100000) W_ hG_ hT_ HBT.out hs_ (by have := HLI.out; have := H30.out; omega) (cell_rg x) HAM.out
          with_reducible refine (hN _ (HG.out.below HB.out) HTM.out (below_size HB.out)).mono ?_
          clear hN
          rintro e w9 ⟨rfl, htm, hb⟩
          have n1_ := Aside0.mk (HB.out.trans hb)
          have n2_ := Aside0.mk htm
          clear HB HTM hb htm hHeld
          have HB := n1_
          have HTM := n2_
          clear n1_ n2_
          refine ⟨_, rfl, ?_⟩
          refine hK.out _ _ (at49 (Kd.C_below HM0.out HB.out) HX.out HLI.out) (fun hHeld => ?_)
          clear hK K hHeld
          refine norm_ (a' := ?_) ?_ ?_
          rotate_left
          · show Act.put _ (some 81) _ = _
            simp only [Act.put, List.setIfInBounds_toArray, List.set_cons_zero, List.set_cons_succ, i64_w, i32_w]
            rfl
          refine done_ (by kernel_rfl) ?_
          go_wp2
          go_roundg (l.length - (i + 1))
          case measure => have := HKI.out; have := HLI.out; omega
          case rel => exact ⟨i + 1, by first | rw [HW.out] | rfl, ⟨by have := HLI.out; omega⟩, ⟨by have := HLI.out; omega⟩, HB, ⟨by have h_ := HTM.out; rw [← HAB.out] at h_; have e_ := HX.out; subst e_; exact h_⟩⟩
      · obtain rfl : l.length = i := by have := HI.out; omega
        have cb1 : decide ((l.length : Int) < (l.length : Int)) = false := decide_eq_false (by omega)
        have cb2 : ((l.length : Int) < (l.length : Int)) = False := eq_false (by omega)
        have cb3 : (l.length < l.length) = False := eq_false (by omega)
        have cb4 : decide (l.length < l.length) = false := decide_eq_false (by omega)
        clear hlt HI HKI
        go_wp2
        clear cb1 cb2 cb3 cb4
        have HEND := HB
        have HTG := Aside0.mk (get_tab _ _ _ _ _ HTM.out)
        have HG1 := Aside0.mk (HG.out.below HB.out)
        have HM1 := Aside0.mk (Kd.C_below HM.out HB.out)
        clear HG HM HM0 HC0 HB HTM
        have HG := HG1
        have HM := HM1
        clear HG1 HM1
        generalize wr = w1 at HEND HTG HG HM ⊢
        have HB := Aside0.mk (Below.refl w1.heap.size w1)
        go_loopg [13, 14] ns.length (fun gq v13 v14 wr => ∃ (i : Nat), v14 = .int .i64 i ∧ Aside0 (i ≤ ns.length) ∧ Aside0 (ns.length ≤ gq + i) ∧ Aside0 (Below w1.heap.size w1 wr) ∧ Aside0 (Kd.R (Kd.int .i64) 2 wr w1.heap.size (fun _ => True) v13 (needL ns i)))
        case atStart => exact ⟨0, rfl, ⟨by omega⟩, ⟨by omega⟩, HB, ⟨Kd.R_nil _ _ _ _ _⟩⟩
        case round =>
          clear HB
          obtain ⟨i, rfl, HI, HKI, HB, HO⟩ := hrel
          by_cases hlt : i < ns.length
          · have cb1 : decide ((i : Int) < (ns.length : Int)) = true := decide_eq_true (by omega)
            have cb2 : ((i : Int) < (ns.length : Int)) = True := eq_true (by omega)
            have cb3 : (i < ns.length) = True := eq_true (by omega)
            have cb4 : decide (i < ns.length) = true := decide_eq_true (by omega)
            have HLI := Aside0.mk hlt
            have HW : Aside0 (wrap64 ((i : Int) + 1) = ((i + 1 : Nat) : Int)) := ⟨by have := H8.out; unfold wrap64; omega⟩
            obtain ⟨ad, eA, hx⟩ := Kd.at_int (Kd.C_below HM.out HB.out) (i : Int) (by omega) (by omega)
            subst eA
            rw [Int.toNat_natCast] at hx
            obtain ⟨x, hxe⟩ : ∃ x, x = rd ns (i : Int) := ⟨_, rfl⟩
            rw [← hxe] at hx
            have HX := Aside0.mk hxe
            clear hlt hxe
            by_cases hneg : Int.tmod x 1000 < 0
            · have HAB := Aside0.mk (show absR x 1000 = wrap64 (-(Int.tmod x 1000)) by unfold absR; rw [if_pos hneg])
              have cb5 : decide (Int.tmod x 1000 < 0) = true := decide_eq_true hneg
              clear hneg
              go_wp2_with ((with_reducible refine gate_builtin (b := .append) (xs := #[.tmp 97, .tmp 99]) rfl ?_); at_builtin; refine Kd.R_append (Kd.int .i64) w1.heap.size rfl (.tmp 97) (.tmp 99) 29 2 (.int .i64 0) 8 rfl Tryd.underlying29 infoF rfl (by decide) (by omega) u13 (needL ns i) (wrap64 (-(Int.tmod x 1000))) [.int .i64 (wrap64 (-(Int.tmod x 1000)))] (fun _ => True) (fun _ => False) rfl (by first | (go_simp; done) | (go_simp; rfl)) ?aP (fun _ hk => hk.elim) (fun _ _ => trivial) ?aO (Below.refl _ _) ?aS ?aL ?_; (case aP => exact rfl); (case aO => exact HO.out); (case aS => exact below_size HB.out); (case aL => rw [needL_len]; have := HLI.out; have := H8.out; omega); intro v2_ w_ ho hb hg_ hat; have n1_ := Aside0.mk (HB.out.trans hb); clear HB HO; have HB := n1_; have HO := Aside0.mk ho; clear n1_ ho hb hg_ hat)
              go_roundg (ns.length - (i + 1))
              case measure => have := HKI.out; have := HLI.out; omega
              case rel => exact ⟨i + 1, by first | rw [HW.out] | rfl, ⟨by have := HLI.out; omega⟩, ⟨by have := HLI.out; omega⟩, HB, ⟨by have h_ := HO.out; rw [← HAB.out, HX.out] at h_; exact h_⟩⟩
            · have HAB := Aside0.mk (show absR x 1000 = Int.tmod x 1000 by unfold absR; rw [if_neg hneg])
              have cb5 : decide (Int.tmod x 1000 < 0) = false := decide_eq_false hneg
              clear hneg
              go_wp2_with ((with_reducible refine gate_builtin (b := .append) (xs := #[.tmp 97, .tmp 99]) rfl ?_); at_builtin; refine Kd.R_append (Kd.int .i64) w1.heap.size rfl (.tmp 97) (.tmp 99) 29 2 (.int .i64 0) 8 rfl Tryd.underlying29 infoF rfl (by decide) (by omega) u13 (needL ns i) (Int.tmod x 1000) [.int .i64 (Int.tmod x 1000)] (fun _ => True) (fun _ => False) rfl (by first | (go_simp; done) | (go_simp; rfl)) ?aP (fun _ hk => hk.elim) (fun _ _ => trivial) ?aO (Below.refl _ _) ?aS ?aL ?_; (case aP => exact rfl); (case aO => exact HO.out); (case aS => exact below_size HB.out); (case aL => rw [needL_len]; have := HLI.out; have := H8.out; omega); intro v2_ w_ ho hb hg_ hat; have n1_ := Aside0.mk (HB.out.trans hb); clear HB HO; have HB := n1_; have HO := Aside0.mk ho; clear n1_ ho hb hg_ hat)
              go_roundg (ns.length - (i + 1))
              case measure => have := HKI.out; have := HLI.out; omega
              case rel => exact ⟨i + 1, by first | rw [HW.out] | rfl, ⟨by have := HLI.out; omega⟩, ⟨by have := HLI.out; omega⟩, HB, ⟨by have h_ := HO.out; rw [← HAB.out, HX.out] at h_; exact h_⟩⟩
          · obtain rfl : ns.length = i := by have := HI.out; omega
            have cb1 : decide ((ns.length : Int) < (ns.length : Int)) = false := decide_eq_false (by omega)
            have cb2 : ((ns.length : Int) < (ns.length : Int)) = False := eq_false (by omega)
            have cb3 : (ns.length < ns.length) = False := eq_false (by omega)
            have cb4 : decide (ns.length < ns.length) = false := decide_eq_false (by omega)
            clear hlt HI HKI
            obtain ⟨A5, c5, hv5, _, _⟩ := Kd.R_reads HO.out
            subst hv5
            obtain ⟨n, hn⟩ : ∃ n, n = needL ns ns.length := ⟨_, rfl⟩
            obtain ⟨T, hT⟩ : ∃ T, T = tabL l l.length := ⟨_, rfl⟩
            obtain ⟨lo, hlo⟩ : ∃ z, z = numW a1 100000 := ⟨_, rfl⟩
            obtain ⟨p, hp⟩ : ∃ z, z = numW a2 100000 := ⟨_, rfl⟩
            have hHF := HF.out
            rw [← hn, ← hT, ← hlo, ← hp] at hHF
            rw [← hn] at HO ⊢
            rw [← hT] at HTG
            have Hlo := Aside0.mk hlo
            have Hp := Aside0.mk hp
            obtain ⟨top, htop⟩ : ∃ z, z = wrap64 (lo + p) := ⟨_, rfl⟩
            rw [← htop] at hHF
            have HTOP := htop.symm
            obtain ⟨hsz, c, hcv, hlt, htg, hsum, hlen, hcalls⟩ := hHF
            obtain ⟨cl, hcl, hsl⟩ := Option.bind_eq_some_iff.mp hcalls
            have HSZ := Aside0.mk hsz
            have HCV : Aside0 (covL spF T n 16 1 0 1 = some (c, sc)) := ⟨hcv⟩
            have HSUM : Aside0 (sumS sh sh.length = tg) := ⟨hsum⟩
            have HLEN : Aside0 (sh.length = n.length) := ⟨hlen⟩
            have HCL : Aside0 (fund_Calls.f [] sh = some cl) := ⟨hcl⟩
            have HSL : Aside0 (pledgeref_SameLongs.f spF cl sh = some true) := ⟨hsl⟩
            have HTGT : Aside0 (tg = mn (mx c lo) top) := ⟨htg⟩
            have HLT : Aside0 (lo ≤ top) := ⟨hlt⟩
            have HN8 : Aside0 (n.length ≤ 8) := ⟨by rw [hn, needL_len]; exact H8.out⟩
            clear hsz hcv hlt htg hsum hlen hcalls hcl hsl hn hT hlo hp htop HF
            go_upto_region 25 with (first
              | (go_at_call 17; have hN := fun W_ => pledgeworld_Number.calls a1 100000 lo W_ (by have e_ := numW_f a1 100000 (by omega); rw [← Hlo.out] at e_; exact e_); (with_reducible refine (hN _).mono ?_); clear hN; rintro e w_ ⟨rfl, hd⟩; have hb := hd.below; have n0_ := Aside0.mk (Kd.R_below HO.out hb); clear HO; have HO := n0_; clear n0_; have n_ := Aside0.mk (below_step HB.out hb); clear HB; have HB := n_; clear n_; clear hb hd)
              | (go_at_call 17; have hN := fun W_ => pledgeworld_Number.calls a2 100000 p W_ (by have e_ := numW_f a2 100000 (by omega); rw [← Hp.out] at e_; exact e_); (with_reducible refine (hN _).mono ?_); clear hN; rintro e w_ ⟨rfl, hd⟩; have hb := hd.below; have n0_ := Aside0.mk (Kd.R_below HO.out hb); clear HO; have HO := n0_; clear n0_; have n_ := Aside0.mk (below_step HB.out hb); clear HB; have HB := n_; clear n_; clear hb hd)
              | (go_at_call 11; have hN := SizeA.calls spF bt T lo top A5 c5 n tg sc sh _ (HG.out.below HB.out) (HTG.out.below HB.out) (Kd.R_reads' HO.out).2.2 (Kd.R_reads' HO.out).2.1 HSZ.out; (with_reducible refine hN.mono ?_); clear hN; rintro e w_ ⟨AS, cS, rfl, ho, hb⟩; have HS := Aside0.mk (Kd.R_lower ho (below_size HB.out)); have n0_ := Aside0.mk (Kd.R_below HO.out hb); clear HO; have HO := n0_; clear n0_; have n_ := Aside0.mk (below_step HB.out hb); clear HB; have HB := n_; clear n_; clear ho hb)
              | ((with_reducible refine gate_dst (N := 18) rfl ?_); refine box_event ?hg (N := 18) ?hd (cs := #[.int .i64 0, .int .i64 0, .int .i64 0, .int .i64 0, .slice none 0 0]) (t := 35) ?hr ?_; (case hd => rfl); (case hg => rfl); (case hr => first | (go_simp; done) | (go_simp; rfl)); intro g2 hg_ w_ hbox hb; have HG2 := Aside0.mk (show w1.heap.size ≤ g2 from Nat.le_trans (below_size HB.out) (Nat.le_of_eq hg_.symm)); have n0_ := Aside0.mk (Kd.R_below HO.out hb); have n1_ := Aside0.mk (Kd.R_below HS.out hb); clear HO HS; have HO := n0_; have HS := n1_; clear n0_ n1_; have n_ := Aside0.mk (below_step HB.out hb); clear HB; have HB := n_; clear n_; have BK2 := Aside0.mk hbox; clear hb hbox hg_; have y0 : w_.cell? ⟨g2, 0, none⟩ = some (.int .i64 0) := (blk_cell BK2.out 0).trans rfl; have y1 : w_.cell? ⟨g2, 1, none⟩ = some (.int .i64 0) := (blk_cell BK2.out 1).trans rfl; have y2 : w_.cell? ⟨g2, 2, none⟩ = some (.int .i64 0) := (blk_cell BK2.out 2).trans rfl; have y3 : w_.cell? ⟨g2, 3, none⟩ = some (.int .i64 0) := (blk_cell BK2.out 3).trans rfl; have y4 : w_.cell? ⟨g2, 4, none⟩ = some (.slice none 0 0) := (blk_cell BK2.out 4).trans rfl; have yf0 := blk_frozen BK2.out 0; have yf1 := blk_frozen BK2.out 1; have yf2 := blk_frozen BK2.out 2; have yf3 := blk_frozen BK2.out 3; have yf4 := blk_frozen BK2.out 4))
            clear cb1 cb2 cb3 cb4
            have n1_ := Aside0.mk (blk_put (blk_put (blk_put (blk_put (blk_put BK2.out 0 (.int .i64 lo) rfl) 1 (.int .i64 top) rfl) 2 (.int .i64 tg) rfl) 3 (.int .i64 sc) rfl) 4 (.slice AS sh.length cS) rfl)
            have n2_ := Aside0.mk (Kd.R_mono (Kd.R_far (p := ⟨g2, 4, none⟩) (Kd.R_far (p := ⟨g2, 3, none⟩) (Kd.R_far (p := ⟨g2, 2, none⟩) (Kd.R_far (p := ⟨g2, 1, none⟩) (Kd.R_far (p := ⟨g2, 0, none⟩) (Kd.R_types HS.out BK2.out (by decide)) (fun _ hk => hk.2) (.int .i64 lo)) (fun _ hk => hk.2) (.int .i64 top)) (fun _ hk => hk.2) (.int .i64 tg)) (fun _ hk => hk.2) (.int .i64 sc)) (fun _ hk => hk.2) (.slice AS sh.length cS)) (fun _ _ => trivial : ∀ k_, _ → True))
            have n4_ := Aside0.mk (Kd.R_mono (Kd.R_far (p := ⟨g2, 4, none⟩) (Kd.R_far (p := ⟨g2, 3, none⟩) (Kd.R_far (p := ⟨g2, 2, none⟩) (Kd.R_far (p := ⟨g2, 1, none⟩) (Kd.R_far (p := ⟨g2, 0, none⟩) (Kd.R_types HO.out BK2.out (by decide)) (fun _ hk => hk.2) (.int .i64 lo)) (fun _ hk => hk.2) (.int .i64 top)) (fun _ hk => hk.2) (.int .i64 tg)) (fun _ hk => hk.2) (.int .i64 sc)) (fun _ hk => hk.2) (.slice AS sh.length cS)) (fun _ _ => trivial : ∀ k_, _ → True))
            have n3_ := Aside0.mk (((((HB.out.setCell (p := ⟨g2, 0, none⟩) HG2.out (.int .i64 lo)).setCell (p := ⟨g2, 1, none⟩) HG2.out (.int .i64 top)).setCell (p := ⟨g2, 2, none⟩) HG2.out (.int .i64 tg)).setCell (p := ⟨g2, 3, none⟩) HG2.out (.int .i64 sc)).setCell (p := ⟨g2, 4, none⟩) HG2.out (.slice AS sh.length cS))
            clear BK2 HB HS HO y0 yf0 y1 yf1 y2 yf2 y3 yf3 y4 yf4
            generalize (((((w_.setCell ⟨g2, 0, none⟩ (.int .i64 lo)).setCell ⟨g2, 1, none⟩ (.int .i64 top)).setCell ⟨g2, 2, none⟩ (.int .i64 tg)).setCell ⟨g2, 3, none⟩ (.int .i64 sc)).setCell ⟨g2, 4, none⟩ (.slice AS sh.length cS)) = w5 at n1_ n2_ n3_ n4_ ⊢
            have BK2 : Aside0 (w5.heap[g2]? = some (.cells #[.int .i64 lo, .int .i64 top, .int .i64 tg, .int .i64 sc, .slice AS sh.length cS] 35 (0, 0))) := ⟨n1_.out.trans rfl⟩
            have HS := n2_
            have HB := n3_
            have HO := n4_
            clear n1_ n2_ n3_ n4_
            have y0 : w5.cell? ⟨g2, 0, none⟩ = some (.int .i64 lo) := (blk_cell BK2.out 0).trans rfl
            have y1 : w5.cell? ⟨g2, 1, none⟩ = some (.int .i64 top) := (blk_cell BK2.out 1).trans rfl
            have y2 : w5.cell? ⟨g2, 2, none⟩ = some (.int .i64 tg) := (blk_cell BK2.out 2).trans rfl
            have y3 : w5.cell? ⟨g2, 3, none⟩ = some (.int .i64 sc) := (blk_cell BK2.out 3).trans rfl
            have y4 : w5.cell? ⟨g2, 4, none⟩ = some (.slice AS sh.length cS) := (blk_cell BK2.out 4).trans rfl
            have yf0 := blk_frozen BK2.out 0
            have yf1 := blk_frozen BK2.out 1
            have yf2 := blk_frozen BK2.out 2
            have yf3 := blk_frozen BK2.out 3
            have yf4 := blk_frozen BK2.out 4
            have hlt := HLT.out
            have htg := HTGT.out
            unfold mn mx at htg
            by_cases hA : c < lo
            · have ht : tg = lo := by (repeat' split at htg) <;> omega
              clear htg
              have da1 : decide (tg < lo) = false := decide_eq_false (by omega)
              have da2 : (tg < lo) = False := eq_false (by omega)
              have da3 : decide (tg < lo) = false := decide_eq_false (by omega)
              have da4 : (tg < lo) = False := eq_false (by omega)
              have db1 : decide (tg > top) = false := decide_eq_false (by omega)
              have db2 : (tg > top) = False := eq_false (by omega)
              have db3 : decide (top < tg) = false := decide_eq_false (by omega)
              have db4 : (top < tg) = False := eq_false (by omega)
              have dz1 : (sc == sc) = true := beq_iff_eq.mpr (by omega)
              have dz2 : (sc != sc) = false := by rw [bne, dz1, Bool.not_true]
              have dc1 : (tg == c) = false := beq_false_of_ne (by omega)
              have dc2 : (tg != c) = true := by rw [bne, dc1, Bool.not_false]
              have de1 : (tg == lo) = true := beq_iff_eq.mpr (by omega)
              have de2 : (tg != lo) = false := by rw [bne, de1, Bool.not_true]
              have dg1 : decide (c ≥ lo) = false := decide_eq_false (by omega)
              have dg2 : (c ≥ lo) = False := eq_false (by omega)
              have dg3 : decide (lo ≤ c) = false := decide_eq_false (by omega)
              have dg4 : (lo ≤ c) = False := eq_false (by omega)
              have di1 : decide (c < lo) = true := decide_eq_true (by omega)
              have di2 : (c < lo) = True := eq_true (by omega)
              have di3 : decide (c < lo) = true := decide_eq_true (by omega)
              have di4 : (c < lo) = True := eq_true (by omega)
              clear ht hlt hA
              go_wp2_with (go_at_call 18; have hN := Cover.calls spF bt T A5 c5 n c sc _ (HG.out.below HB.out) (HTG.out.below HB.out) (Kd.R_reads' HO.out).2.2 (Kd.R_reads' HO.out).2.1 HCV.out; (with_reducible refine hN.mono ?_); clear hN; rintro e w_ ⟨rfl, hb⟩; have n0_ := Aside0.mk (Kd.R_below HO.out hb); have n1_ := Aside0.mk (Kd.R_below HS.out hb); clear HO HS; have HO := n0_; have HS := n1_; clear n0_ n1_; have n_ := Aside0.mk (below_step HB.out hb); clear HB; have HB := n_; clear n_; have n_ := Aside0.mk (blk_below BK2.out hb); clear BK2; have BK2 := n_; clear n_; (try clear y0 yf0 y1 yf1 y2 yf2 y3 yf3 y4 yf4); have y0 : w_.cell? ⟨g2, 0, none⟩ = some (.int .i64 lo) := (blk_cell BK2.out 0).trans rfl; have y1 : w_.cell? ⟨g2, 1, none⟩ = some (.int .i64 top) := (blk_cell BK2.out 1).trans rfl; have y2 : w_.cell? ⟨g2, 2, none⟩ = some (.int .i64 tg) := (blk_cell BK2.out 2).trans rfl; have y3 : w_.cell? ⟨g2, 3, none⟩ = some (.int .i64 sc) := (blk_cell BK2.out 3).trans rfl; have y4 : w_.cell? ⟨g2, 4, none⟩ = some (.slice AS sh.length cS) := (blk_cell BK2.out 4).trans rfl; have yf0 := blk_frozen BK2.out 0; have yf1 := blk_frozen BK2.out 1; have yf2 := blk_frozen BK2.out 2; have yf3 := blk_frozen BK2.out 3; have yf4 := blk_frozen BK2.out 4; clear hb)
              clear da1 da2 da3 da4 db1 db2 db3 db4 dz1 dz2
              (try clear dc1 dc2); (try clear de1 de2); (try clear df1 df2); (try clear dg1 dg2 dg3 dg4); (try clear dh1 dh2 dh3 dh4); (try clear di1 di2 di3 di4)
              go_loopg [23, 24] sh.length (fun gq v23 v24 wr => ∃ (i : Nat), v24 = .int .i64 i ∧ v23 = .int .i64 (sumS sh i) ∧ Aside0 (i ≤ sh.length) ∧ Aside0 (sh.length ≤ gq + i) ∧ Aside0 (Below w1.heap.size w1 wr) ∧ Aside0 (Kd.R (Kd.int .i64) 2 wr w1.heap.size (fun _ => True) (.slice A5 n.length c5) n) ∧ Aside0 (Kd.R (Kd.int .i64) 2 wr w1.heap.size (fun _ => True) (.slice AS sh.length cS) sh) ∧ Aside0 (wr.heap[g2]? = some (.cells #[.int .i64 lo, .int .i64 top, .int .i64 tg, .int .i64 sc, .slice AS sh.length cS] 35 (0, 0))))
              case atStart => exact ⟨0, rfl, rfl, ⟨by omega⟩, ⟨by omega⟩, HB, HO, HS, BK2⟩
              case round =>
                clear HB HO HS BK2 y0 yf0 y1 yf1 y2 yf2 y3 yf3 y4 yf4
                obtain ⟨i, rfl, rfl, HI, HKI, HB, HO, HS, BK2⟩ := hrel
                have y0 : wr.cell? ⟨g2, 0, none⟩ = some (.int .i64 lo) := (blk_cell BK2.out 0).trans rfl
                have y1 : wr.cell? ⟨g2, 1, none⟩ = some (.int .i64 top) := (blk_cell BK2.out 1).trans rfl
                have y2 : wr.cell? ⟨g2, 2, none⟩ = some (.int .i64 tg) := (blk_cell BK2.out 2).trans rfl
                have y3 : wr.cell? ⟨g2, 3, none⟩ = some (.int .i64 sc) := (blk_cell BK2.out 3).trans rfl
                have y4 : wr.cell? ⟨g2, 4, none⟩ = some (.slice AS sh.length cS) := (blk_cell BK2.out 4).trans rfl
                have yf0 := blk_frozen BK2.out 0
                have yf1 := blk_frozen BK2.out 1
                have yf2 := blk_frozen BK2.out 2
                have yf3 := blk_frozen BK2.out 3
                have yf4 := blk_frozen BK2.out 4
                by_cases hlt : i < sh.length
                · have cb1 : decide ((i : Int) < (sh.length : Int)) = true := decide_eq_true (by omega)
                  have cb2 : ((i : Int) < (sh.length : Int)) = True := eq_true (by omega)
                  have cb3 : (i < sh.length) = True := eq_true (by omega)
                  have cb4 : decide (i < sh.length) = true := decide_eq_true (by omega)
                  have HLI := Aside0.mk hlt
                  have HW : Aside0 (wrap64 ((i : Int) + 1) = ((i + 1 : Nat) : Int)) := ⟨by have := HLEN.out; have := HN8.out; unfold wrap64; omega⟩
                  obtain ⟨ad, eA, hx⟩ := Kd.at_int (Kd.R_reads' HS.out).2.2 (i : Int) (by omega) (by omega)
                  subst eA
                  rw [Int.toNat_natCast] at hx
                  clear hlt
                  go_wp2
                  go_roundg (sh.length - (i + 1))
                  case measure => have := HKI.out; have := HLI.out; omega
                  case rel => exact ⟨i + 1, by first | rw [HW.out] | rfl, rfl, ⟨by have := HLI.out; omega⟩, ⟨by have := HLI.out; omega⟩, HB, HO, HS, BK2⟩
                · obtain rfl : sh.length = i := by have := HI.out; omega
                  have cb1 : decide ((sh.length : Int) < (sh.length : Int)) = false := decide_eq_false (by omega)
                  have cb2 : ((sh.length : Int) < (sh.length : Int)) = False := eq_false (by omega)
                  have cb3 : (sh.length < sh.length) = False := eq_false (by omega)
                  have cb4 : decide (sh.length < sh.length) = false := decide_eq_false (by omega)
                  have cs1 : (sumS sh sh.length == tg) = true := beq_iff_eq.mpr HSUM.out
                  have cs2 : ((sh.length : Int) == (n.length : Int)) = true := beq_iff_eq.mpr (by have := HLEN.out; omega)
                  have cs3 : (sh.length == n.length) = true := beq_iff_eq.mpr HLEN.out
                  have cs4 : (lo == lo) = true := beq_iff_eq.mpr rfl
                  have cs5 : (top == top) = true := beq_iff_eq.mpr rfl
                  clear hlt HI HKI
                  go_wp2_with (first
                    | (go_at_call 10; have hN := fund_Calls.calls none 0 [] AS cS sh cl _ (Kd.C_nil _ _) (Nat.zero_le _) (Kd.R_reads' HS.out).2.2 (Kd.R_reads' HS.out).2.1 HCL.out; simp only [List.length_nil] at hN; (with_reducible refine hN.mono ?_); clear hN; rintro e w_ ⟨v_, rfl, ho, hb⟩; obtain ⟨A8, c8, rfl, hl_, hC_⟩ := Kd.R_reads ho; have n0_ := Aside0.mk (Kd.R_below HO.out hb); have n1_ := Aside0.mk (Kd.R_below HS.out hb); clear HO HS; have HO := n0_; have HS := n1_; clear n0_ n1_; have n_ := Aside0.mk (below_step HB.out hb); clear HB; have HB := n_; clear n_; have n_ := Aside0.mk (blk_below BK2.out hb); clear BK2; have BK2 := n_; clear n_; (try clear y0 yf0 y1 yf1 y2 yf2 y3 yf3 y4 yf4); have y0 : w_.cell? ⟨g2, 0, none⟩ = some (.int .i64 lo) := (blk_cell BK2.out 0).trans rfl; have y1 : w_.cell? ⟨g2, 1, none⟩ = some (.int .i64 top) := (blk_cell BK2.out 1).trans rfl; have y2 : w_.cell? ⟨g2, 2, none⟩ = some (.int .i64 tg) := (blk_cell BK2.out 2).trans rfl; have y3 : w_.cell? ⟨g2, 3, none⟩ = some (.int .i64 sc) := (blk_cell BK2.out 3).trans rfl; have y4 : w_.cell? ⟨g2, 4, none⟩ = some (.slice AS sh.length cS) := (blk_cell BK2.out 4).trans rfl; have yf0 := blk_frozen BK2.out 0; have yf1 := blk_frozen BK2.out 1; have yf2 := blk_frozen BK2.out 2; have yf3 := blk_frozen BK2.out 3; have yf4 := blk_frozen BK2.out 4; have HC := Aside0.mk hC_; have HCLN := Aside0.mk hl_; clear ho hb hl_ hC_)
                    | (go_at_call 19; have hN := pledgeref_SameLongs.calls spF A8 c8 cl AS cS sh true _ HC.out HCLN.out (Kd.R_reads' HS.out).2.2 (Kd.R_reads' HS.out).2.1 HSL.out; (with_reducible refine hN.mono ?_); clear hN; rintro e w_ ⟨rfl, hd⟩; have hb := hd.below; have n_ := Aside0.mk (Kd.C_below HC.out hb); clear HC; have HC := n_; clear n_; have n0_ := Aside0.mk (Kd.R_below HO.out hb); have n1_ := Aside0.mk (Kd.R_below HS.out hb); clear HO HS; have HO := n0_; have HS := n1_; clear n0_ n1_; have n_ := Aside0.mk (below_step HB.out hb); clear HB; have HB := n_; clear n_; have n_ := Aside0.mk (blk_below BK2.out hb); clear BK2; have BK2 := n_; clear n_; (try clear y0 yf0 y1 yf1 y2 yf2 y3 yf3 y4 yf4); have y0 : w_.cell? ⟨g2, 0, none⟩ = some (.int .i64 lo) := (blk_cell BK2.out 0).trans rfl; have y1 : w_.cell? ⟨g2, 1, none⟩ = some (.int .i64 top) := (blk_cell BK2.out 1).trans rfl; have y2 : w_.cell? ⟨g2, 2, none⟩ = some (.int .i64 tg) := (blk_cell BK2.out 2).trans rfl; have y3 : w_.cell? ⟨g2, 3, none⟩ = some (.int .i64 sc) := (blk_cell BK2.out 3).trans rfl; have y4 : w_.cell? ⟨g2, 4, none⟩ = some (.slice AS sh.length cS) := (blk_cell BK2.out 4).trans rfl; have yf0 := blk_frozen BK2.out 0; have yf1 := blk_frozen BK2.out 1; have yf2 := blk_frozen BK2.out 2; have yf3 := blk_frozen BK2.out 3; have yf4 := blk_frozen BK2.out 4; clear hb hd))
                  go_ret
                  exact ⟨by first | rfl | simp, HEND.out.trans (HB.out.mono (below_size HEND.out))⟩
            by_cases hB : c ≤ top
            · have ht : tg = c := by (repeat' split at htg) <;> omega
              clear htg
              have da1 : decide (tg < lo) = false := decide_eq_false (by omega)
              have da2 : (tg < lo) = False := eq_false (by omega)
              have da3 : decide (tg < lo) = false := decide_eq_false (by omega)
              have da4 : (tg < lo) = False := eq_false (by omega)
              have db1 : decide (tg > top) = false := decide_eq_false (by omega)
              have db2 : (tg > top) = False := eq_false (by omega)
              have db3 : decide (top < tg) = false := decide_eq_false (by omega)
              have db4 : (top < tg) = False := eq_false (by omega)
              have dz1 : (sc == sc) = true := beq_iff_eq.mpr (by omega)
              have dz2 : (sc != sc) = false := by rw [bne, dz1, Bool.not_true]
              have dc1 : (tg == c) = true := beq_iff_eq.mpr (by omega)
              have dc2 : (tg != c) = false := by rw [bne, dc1, Bool.not_true]
              have dg1 : decide (c ≥ lo) = true := decide_eq_true (by omega)
              have dg2 : (c ≥ lo) = True := eq_true (by omega)
              have dg3 : decide (lo ≤ c) = true := decide_eq_true (by omega)
              have dg4 : (lo ≤ c) = True := eq_true (by omega)
              have dh1 : decide (c ≤ top) = true := decide_eq_true (by omega)
              have dh2 : (c ≤ top) = True := eq_true (by omega)
              have dh3 : decide (c ≤ top) = true := decide_eq_true (by omega)
              have dh4 : (c ≤ top) = True := eq_true (by omega)
              have di1 : decide (c < lo) = false := decide_eq_false (by omega)
              have di2 : (c < lo) = False := eq_false (by omega)
              have di3 : decide (c < lo) = false := decide_eq_false (by omega)
              have di4 : (c < lo) = False := eq_false (by omega)
              clear ht hlt hA hB
              go_wp2_with (go_at_call 18; have hN := Cover.calls spF bt T A5 c5 n c sc _ (HG.out.below HB.out) (HTG.out.below HB.out) (Kd.R_reads' HO.out).2.2 (Kd.R_reads' HO.out).2.1 HCV.out; (with_reducible refine hN.mono ?_); clear hN; rintro e w_ ⟨rfl, hb⟩; have n0_ := Aside0.mk (Kd.R_below HO.out hb); have n1_ := Aside0.mk (Kd.R_below HS.out hb); clear HO HS; have HO := n0_; have HS := n1_; clear n0_ n1_; have n_ := Aside0.mk (below_step HB.out hb); clear HB; have HB := n_; clear n_; have n_ := Aside0.mk (blk_below BK2.out hb); clear BK2; have BK2 := n_; clear n_; (try clear y0 yf0 y1 yf1 y2 yf2 y3 yf3 y4 yf4); have y0 : w_.cell? ⟨g2, 0, none⟩ = some (.int .i64 lo) := (blk_cell BK2.out 0).trans rfl; have y1 : w_.cell? ⟨g2, 1, none⟩ = some (.int .i64 top) := (blk_cell BK2.out 1).trans rfl; have y2 : w_.cell? ⟨g2, 2, none⟩ = some (.int .i64 tg) := (blk_cell BK2.out 2).trans rfl; have y3 : w_.cell? ⟨g2, 3, none⟩ = some (.int .i64 sc) := (blk_cell BK2.out 3).trans rfl; have y4 : w_.cell? ⟨g2, 4, none⟩ = some (.slice AS sh.length cS) := (blk_cell BK2.out 4).trans rfl; have yf0 := blk_frozen BK2.out 0; have yf1 := blk_frozen BK2.out 1; have yf2 := blk_frozen BK2.out 2; have yf3 := blk_frozen BK2.out 3; have yf4 := blk_frozen BK2.out 4; clear hb)
              clear da1 da2 da3 da4 db1 db2 db3 db4 dz1 dz2
              (try clear dc1 dc2); (try clear de1 de2); (try clear df1 df2); (try clear dg1 dg2 dg3 dg4); (try clear dh1 dh2 dh3 dh4); (try clear di1 di2 di3 di4)
              go_loopg [23, 24] sh.length (fun gq v23 v24 wr => ∃ (i : Nat), v24 = .int .i64 i ∧ v23 = .int .i64 (sumS sh i) ∧ Aside0 (i ≤ sh.length) ∧ Aside0 (sh.length ≤ gq + i) ∧ Aside0 (Below w1.heap.size w1 wr) ∧ Aside0 (Kd.R (Kd.int .i64) 2 wr w1.heap.size (fun _ => True) (.slice A5 n.length c5) n) ∧ Aside0 (Kd.R (Kd.int .i64) 2 wr w1.heap.size (fun _ => True) (.slice AS sh.length cS) sh) ∧ Aside0 (wr.heap[g2]? = some (.cells #[.int .i64 lo, .int .i64 top, .int .i64 tg, .int .i64 sc, .slice AS sh.length cS] 35 (0, 0))))
              case atStart => exact ⟨0, rfl, rfl, ⟨by omega⟩, ⟨by omega⟩, HB, HO, HS, BK2⟩
              case round =>
                clear HB HO HS BK2 y0 yf0 y1 yf1 y2 yf2 y3 yf3 y4 yf4
                obtain ⟨i, rfl, rfl, HI, HKI, HB, HO, HS, BK2⟩ := hrel
                have y0 : wr.cell? ⟨g2, 0, none⟩ = some (.int .i64 lo) := (blk_cell BK2.out 0).trans rfl
                have y1 : wr.cell? ⟨g2, 1, none⟩ = some (.int .i64 top) := (blk_cell BK2.out 1).trans rfl
                have y2 : wr.cell? ⟨g2, 2, none⟩ = some (.int .i64 tg) := (blk_cell BK2.out 2).trans rfl
                have y3 : wr.cell? ⟨g2, 3, none⟩ = some (.int .i64 sc) := (blk_cell BK2.out 3).trans rfl
                have y4 : wr.cell? ⟨g2, 4, none⟩ = some (.slice AS sh.length cS) := (blk_cell BK2.out 4).trans rfl
                have yf0 := blk_frozen BK2.out 0
                have yf1 := blk_frozen BK2.out 1
                have yf2 := blk_frozen BK2.out 2
                have yf3 := blk_frozen BK2.out 3
                have yf4 := blk_frozen BK2.out 4
                by_cases hlt : i < sh.length
                · have cb1 : decide ((i : Int) < (sh.length : Int)) = true := decide_eq_true (by omega)
                  have cb2 : ((i : Int) < (sh.length : Int)) = True := eq_true (by omega)
                  have cb3 : (i < sh.length) = True := eq_true (by omega)
                  have cb4 : decide (i < sh.length) = true := decide_eq_true (by omega)
                  have HLI := Aside0.mk hlt
                  have HW : Aside0 (wrap64 ((i : Int) + 1) = ((i + 1 : Nat) : Int)) := ⟨by have := HLEN.out; have := HN8.out; unfold wrap64; omega⟩
                  obtain ⟨ad, eA, hx⟩ := Kd.at_int (Kd.R_reads' HS.out).2.2 (i : Int) (by omega) (by omega)
                  subst eA
                  rw [Int.toNat_natCast] at hx
                  clear hlt
                  go_wp2
                  go_roundg (sh.length - (i + 1))
                  case measure => have := HKI.out; have := HLI.out; omega
                  case rel => exact ⟨i + 1, by first | rw [HW.out] | rfl, rfl, ⟨by have := HLI.out; omega⟩, ⟨by have := HLI.out; omega⟩, HB, HO, HS, BK2⟩
                · obtain rfl : sh.length = i := by have := HI.out; omega
                  have cb1 : decide ((sh.length : Int) < (sh.length : Int)) = false := decide_eq_false (by omega)
                  have cb2 : ((sh.length : Int) < (sh.length : Int)) = False := eq_false (by omega)
                  have cb3 : (sh.length < sh.length) = False := eq_false (by omega)
                  have cb4 : decide (sh.length < sh.length) = false := decide_eq_false (by omega)
                  have cs1 : (sumS sh sh.length == tg) = true := beq_iff_eq.mpr HSUM.out
                  have cs2 : ((sh.length : Int) == (n.length : Int)) = true := beq_iff_eq.mpr (by have := HLEN.out; omega)
                  have cs3 : (sh.length == n.length) = true := beq_iff_eq.mpr HLEN.out
                  have cs4 : (lo == lo) = true := beq_iff_eq.mpr rfl
                  have cs5 : (top == top) = true := beq_iff_eq.mpr rfl
                  clear hlt HI HKI
                  go_wp2_with (first
                    | (go_at_call 10; have hN := fund_Calls.calls none 0 [] AS cS sh cl _ (Kd.C_nil _ _) (Nat.zero_le _) (Kd.R_reads' HS.out).2.2 (Kd.R_reads' HS.out).2.1 HCL.out; simp only [List.length_nil] at hN; (with_reducible refine hN.mono ?_); clear hN; rintro e w_ ⟨v_, rfl, ho, hb⟩; obtain ⟨A8, c8, rfl, hl_, hC_⟩ := Kd.R_reads ho; have n0_ := Aside0.mk (Kd.R_below HO.out hb); have n1_ := Aside0.mk (Kd.R_below HS.out hb); clear HO HS; have HO := n0_; have HS := n1_; clear n0_ n1_; have n_ := Aside0.mk (below_step HB.out hb); clear HB; have HB := n_; clear n_; have n_ := Aside0.mk (blk_below BK2.out hb); clear BK2; have BK2 := n_; clear n_; (try clear y0 yf0 y1 yf1 y2 yf2 y3 yf3 y4 yf4); have y0 : w_.cell? ⟨g2, 0, none⟩ = some (.int .i64 lo) := (blk_cell BK2.out 0).trans rfl; have y1 : w_.cell? ⟨g2, 1, none⟩ = some (.int .i64 top) := (blk_cell BK2.out 1).trans rfl; have y2 : w_.cell? ⟨g2, 2, none⟩ = some (.int .i64 tg) := (blk_cell BK2.out 2).trans rfl; have y3 : w_.cell? ⟨g2, 3, none⟩ = some (.int .i64 sc) := (blk_cell BK2.out 3).trans rfl; have y4 : w_.cell? ⟨g2, 4, none⟩ = some (.slice AS sh.length cS) := (blk_cell BK2.out 4).trans rfl; have yf0 := blk_frozen BK2.out 0; have yf1 := blk_frozen BK2.out 1; have yf2 := blk_frozen BK2.out 2; have yf3 := blk_frozen BK2.out 3; have yf4 := blk_frozen BK2.out 4; have HC := Aside0.mk hC_; have HCLN := Aside0.mk hl_; clear ho hb hl_ hC_)
                    | (go_at_call 19; have hN := pledgeref_SameLongs.calls spF A8 c8 cl AS cS sh true _ HC.out HCLN.out (Kd.R_reads' HS.out).2.2 (Kd.R_reads' HS.out).2.1 HSL.out; (with_reducible refine hN.mono ?_); clear hN; rintro e w_ ⟨rfl, hd⟩; have hb := hd.below; have n_ := Aside0.mk (Kd.C_below HC.out hb); clear HC; have HC := n_; clear n_; have n0_ := Aside0.mk (Kd.R_below HO.out hb); have n1_ := Aside0.mk (Kd.R_below HS.out hb); clear HO HS; have HO := n0_; have HS := n1_; clear n0_ n1_; have n_ := Aside0.mk (below_step HB.out hb); clear HB; have HB := n_; clear n_; have n_ := Aside0.mk (blk_below BK2.out hb); clear BK2; have BK2 := n_; clear n_; (try clear y0 yf0 y1 yf1 y2 yf2 y3 yf3 y4 yf4); have y0 : w_.cell? ⟨g2, 0, none⟩ = some (.int .i64 lo) := (blk_cell BK2.out 0).trans rfl; have y1 : w_.cell? ⟨g2, 1, none⟩ = some (.int .i64 top) := (blk_cell BK2.out 1).trans rfl; have y2 : w_.cell? ⟨g2, 2, none⟩ = some (.int .i64 tg) := (blk_cell BK2.out 2).trans rfl; have y3 : w_.cell? ⟨g2, 3, none⟩ = some (.int .i64 sc) := (blk_cell BK2.out 3).trans rfl; have y4 : w_.cell? ⟨g2, 4, none⟩ = some (.slice AS sh.length cS) := (blk_cell BK2.out 4).trans rfl; have yf0 := blk_frozen BK2.out 0; have yf1 := blk_frozen BK2.out 1; have yf2 := blk_frozen BK2.out 2; have yf3 := blk_frozen BK2.out 3; have yf4 := blk_frozen BK2.out 4; clear hb hd))
                  go_ret
                  exact ⟨by first | rfl | simp, HEND.out.trans (HB.out.mono (below_size HEND.out))⟩
            by_cases hC : top = lo
            · have ht : tg = top := by (repeat' split at htg) <;> omega
              clear htg
              have da1 : decide (tg < lo) = false := decide_eq_false (by omega)
              have da2 : (tg < lo) = False := eq_false (by omega)
              have da3 : decide (tg < lo) = false := decide_eq_false (by omega)
              have da4 : (tg < lo) = False := eq_false (by omega)
              have db1 : decide (tg > top) = false := decide_eq_false (by omega)
              have db2 : (tg > top) = False := eq_false (by omega)
              have db3 : decide (top < tg) = false := decide_eq_false (by omega)
              have db4 : (top < tg) = False := eq_false (by omega)
              have dz1 : (sc == sc) = true := beq_iff_eq.mpr (by omega)
              have dz2 : (sc != sc) = false := by rw [bne, dz1, Bool.not_true]
              have dc1 : (tg == c) = false := beq_false_of_ne (by omega)
              have dc2 : (tg != c) = true := by rw [bne, dc1, Bool.not_false]
              have de1 : (tg == lo) = true := beq_iff_eq.mpr (by omega)
              have de2 : (tg != lo) = false := by rw [bne, de1, Bool.not_true]
              have dg1 : decide (c ≥ lo) = true := decide_eq_true (by omega)
              have dg2 : (c ≥ lo) = True := eq_true (by omega)
              have dg3 : decide (lo ≤ c) = true := decide_eq_true (by omega)
              have dg4 : (lo ≤ c) = True := eq_true (by omega)
              have dh1 : decide (c ≤ top) = false := decide_eq_false (by omega)
              have dh2 : (c ≤ top) = False := eq_false (by omega)
              have dh3 : decide (c ≤ top) = false := decide_eq_false (by omega)
              have dh4 : (c ≤ top) = False := eq_false (by omega)
              have di1 : decide (c < lo) = false := decide_eq_false (by omega)
              have di2 : (c < lo) = False := eq_false (by omega)
              have di3 : decide (c < lo) = false := decide_eq_false (by omega)
              have di4 : (c < lo) = False := eq_false (by omega)
              clear ht hlt hA hB hC
              go_wp2_with (go_at_call 18; have hN := Cover.calls spF bt T A5 c5 n c sc _ (HG.out.below HB.out) (HTG.out.below HB.out) (Kd.R_reads' HO.out).2.2 (Kd.R_reads' HO.out).2.1 HCV.out; (with_reducible refine hN.mono ?_); clear hN; rintro e w_ ⟨rfl, hb⟩; have n0_ := Aside0.mk (Kd.R_below HO.out hb); have n1_ := Aside0.mk (Kd.R_below HS.out hb); clear HO HS; have HO := n0_; have HS := n1_; clear n0_ n1_; have n_ := Aside0.mk (below_step HB.out hb); clear HB; have HB := n_; clear n_; have n_ := Aside0.mk (blk_below BK2.out hb); clear BK2; have BK2 := n_; clear n_; (try clear y0 yf0 y1 yf1 y2 yf2 y3 yf3 y4 yf4); have y0 : w_.cell? ⟨g2, 0, none⟩ = some (.int .i64 lo) := (blk_cell BK2.out 0).trans rfl; have y1 : w_.cell? ⟨g2, 1, none⟩ = some (.int .i64 top) := (blk_cell BK2.out 1).trans rfl; have y2 : w_.cell? ⟨g2, 2, none⟩ = some (.int .i64 tg) := (blk_cell BK2.out 2).trans rfl; have y3 : w_.cell? ⟨g2, 3, none⟩ = some (.int .i64 sc) := (blk_cell BK2.out 3).trans rfl; have y4 : w_.cell? ⟨g2, 4, none⟩ = some (.slice AS sh.length cS) := (blk_cell BK2.out 4).trans rfl; have yf0 := blk_frozen BK2.out 0; have yf1 := blk_frozen BK2.out 1; have yf2 := blk_frozen BK2.out 2; have yf3 := blk_frozen BK2.out 3; have yf4 := blk_frozen BK2.out 4; clear hb)
              clear da1 da2 da3 da4 db1 db2 db3 db4 dz1 dz2
              (try clear dc1 dc2); (try clear de1 de2); (try clear df1 df2); (try clear dg1 dg2 dg3 dg4); (try clear dh1 dh2 dh3 dh4); (try clear di1 di2 di3 di4)
              go_loopg [23, 24] sh.length (fun gq v23 v24 wr => ∃ (i : Nat), v24 = .int .i64 i ∧ v23 = .int .i64 (sumS sh i) ∧ Aside0 (i ≤ sh.length) ∧ Aside0 (sh.length ≤ gq + i) ∧ Aside0 (Below w1.heap.size w1 wr) ∧ Aside0 (Kd.R (Kd.int .i64) 2 wr w1.heap.size (fun _ => True) (.slice A5 n.length c5) n) ∧ Aside0 (Kd.R (Kd.int .i64) 2 wr w1.heap.size (fun _ => True) (.slice AS sh.length cS) sh) ∧ Aside0 (wr.heap[g2]? = some (.cells #[.int .i64 lo, .int .i64 top, .int .i64 tg, .int .i64 sc, .slice AS sh.length cS] 35 (0, 0))))
              case atStart => exact ⟨0, rfl, rfl, ⟨by omega⟩, ⟨by omega⟩, HB, HO, HS, BK2⟩
              case round =>
                clear HB HO HS BK2 y0 yf0 y1 yf1 y2 yf2 y3 yf3 y4 yf4
                obtain ⟨i, rfl, rfl, HI, HKI, HB, HO, HS, BK2⟩ := hrel
                have y0 : wr.cell? ⟨g2, 0, none⟩ = some (.int .i64 lo) := (blk_cell BK2.out 0).trans rfl
                have y1 : wr.cell? ⟨g2, 1, none⟩ = some (.int .i64 top) := (blk_cell BK2.out 1).trans rfl
                have y2 : wr.cell? ⟨g2, 2, none⟩ = some (.int .i64 tg) := (blk_cell BK2.out 2).trans rfl
                have y3 : wr.cell? ⟨g2, 3, none⟩ = some (.int .i64 sc) := (blk_cell BK2.out 3).trans rfl
                have y4 : wr.cell? ⟨g2, 4, none⟩ = some (.slice AS sh.length cS) := (blk_cell BK2.out 4).trans rfl
                have yf0 := blk_frozen BK2.out 0
                have yf1 := blk_frozen BK2.out 1
                have yf2 := blk_frozen BK2.out 2
                have yf3 := blk_frozen BK2.out 3
                have yf4 := blk_frozen BK2.out 4
                by_cases hlt : i < sh.length
                · have cb1 : decide ((i : Int) < (sh.length : Int)) = true := decide_eq_true (by omega)
                  have cb2 : ((i : Int) < (sh.length : Int)) = True := eq_true (by omega)
                  have cb3 : (i < sh.length) = True := eq_true (by omega)
                  have cb4 : decide (i < sh.length) = true := decide_eq_true (by omega)
                  have HLI := Aside0.mk hlt
                  have HW : Aside0 (wrap64 ((i : Int) + 1) = ((i + 1 : Nat) : Int)) := ⟨by have := HLEN.out; have := HN8.out; unfold wrap64; omega⟩
                  obtain ⟨ad, eA, hx⟩ := Kd.at_int (Kd.R_reads' HS.out).2.2 (i : Int) (by omega) (by omega)
                  subst eA
                  rw [Int.toNat_natCast] at hx
                  clear hlt
                  go_wp2
                  go_roundg (sh.length - (i + 1))
                  case measure => have := HKI.out; have := HLI.out; omega
                  case rel => exact ⟨i + 1, by first | rw [HW.out] | rfl, rfl, ⟨by have := HLI.out; omega⟩, ⟨by have := HLI.out; omega⟩, HB, HO, HS, BK2⟩
                · obtain rfl : sh.length = i := by have := HI.out; omega
                  have cb1 : decide ((sh.length : Int) < (sh.length : Int)) = false := decide_eq_false (by omega)
                  have cb2 : ((sh.length : Int) < (sh.length : Int)) = False := eq_false (by omega)
                  have cb3 : (sh.length < sh.length) = False := eq_false (by omega)
                  have cb4 : decide (sh.length < sh.length) = false := decide_eq_false (by omega)
                  have cs1 : (sumS sh sh.length == tg) = true := beq_iff_eq.mpr HSUM.out
                  have cs2 : ((sh.length : Int) == (n.length : Int)) = true := beq_iff_eq.mpr (by have := HLEN.out; omega)
                  have cs3 : (sh.length == n.length) = true := beq_iff_eq.mpr HLEN.out
                  have cs4 : (lo == lo) = true := beq_iff_eq.mpr rfl
                  have cs5 : (top == top) = true := beq_iff_eq.mpr rfl
                  clear hlt HI HKI
                  go_wp2_with (first
                    | (go_at_call 10; have hN := fund_Calls.calls none 0 [] AS cS sh cl _ (Kd.C_nil _ _) (Nat.zero_le _) (Kd.R_reads' HS.out).2.2 (Kd.R_reads' HS.out).2.1 HCL.out; simp only [List.length_nil] at hN; (with_reducible refine hN.mono ?_); clear hN; rintro e w_ ⟨v_, rfl, ho, hb⟩; obtain ⟨A8, c8, rfl, hl_, hC_⟩ := Kd.R_reads ho; have n0_ := Aside0.mk (Kd.R_below HO.out hb); have n1_ := Aside0.mk (Kd.R_below HS.out hb); clear HO HS; have HO := n0_; have HS := n1_; clear n0_ n1_; have n_ := Aside0.mk (below_step HB.out hb); clear HB; have HB := n_; clear n_; have n_ := Aside0.mk (blk_below BK2.out hb); clear BK2; have BK2 := n_; clear n_; (try clear y0 yf0 y1 yf1 y2 yf2 y3 yf3 y4 yf4); have y0 : w_.cell? ⟨g2, 0, none⟩ = some (.int .i64 lo) := (blk_cell BK2.out 0).trans rfl; have y1 : w_.cell? ⟨g2, 1, none⟩ = some (.int .i64 top) := (blk_cell BK2.out 1).trans rfl; have y2 : w_.cell? ⟨g2, 2, none⟩ = some (.int .i64 tg) := (blk_cell BK2.out 2).trans rfl; have y3 : w_.cell? ⟨g2, 3, none⟩ = some (.int .i64 sc) := (blk_cell BK2.out 3).trans rfl; have y4 : w_.cell? ⟨g2, 4, none⟩ = some (.slice AS sh.length cS) := (blk_cell BK2.out 4).trans rfl; have yf0 := blk_frozen BK2.out 0; have yf1 := blk_frozen BK2.out 1; have yf2 := blk_frozen BK2.out 2; have yf3 := blk_frozen BK2.out 3; have yf4 := blk_frozen BK2.out 4; have HC := Aside0.mk hC_; have HCLN := Aside0.mk hl_; clear ho hb hl_ hC_)
                    | (go_at_call 19; have hN := pledgeref_SameLongs.calls spF A8 c8 cl AS cS sh true _ HC.out HCLN.out (Kd.R_reads' HS.out).2.2 (Kd.R_reads' HS.out).2.1 HSL.out; (with_reducible refine hN.mono ?_); clear hN; rintro e w_ ⟨rfl, hd⟩; have hb := hd.below; have n_ := Aside0.mk (Kd.C_below HC.out hb); clear HC; have HC := n_; clear n_; have n0_ := Aside0.mk (Kd.R_below HO.out hb); have n1_ := Aside0.mk (Kd.R_below HS.out hb); clear HO HS; have HO := n0_; have HS := n1_; clear n0_ n1_; have n_ := Aside0.mk (below_step HB.out hb); clear HB; have HB := n_; clear n_; have n_ := Aside0.mk (blk_below BK2.out hb); clear BK2; have BK2 := n_; clear n_; (try clear y0 yf0 y1 yf1 y2 yf2 y3 yf3 y4 yf4); have y0 : w_.cell? ⟨g2, 0, none⟩ = some (.int .i64 lo) := (blk_cell BK2.out 0).trans rfl; have y1 : w_.cell? ⟨g2, 1, none⟩ = some (.int .i64 top) := (blk_cell BK2.out 1).trans rfl; have y2 : w_.cell? ⟨g2, 2, none⟩ = some (.int .i64 tg) := (blk_cell BK2.out 2).trans rfl; have y3 : w_.cell? ⟨g2, 3, none⟩ = some (.int .i64 sc) := (blk_cell BK2.out 3).trans rfl; have y4 : w_.cell? ⟨g2, 4, none⟩ = some (.slice AS sh.length cS) := (blk_cell BK2.out 4).trans rfl; have yf0 := blk_frozen BK2.out 0; have yf1 := blk_frozen BK2.out 1; have yf2 := blk_frozen BK2.out 2; have yf3 := blk_frozen BK2.out 3; have yf4 := blk_frozen BK2.out 4; clear hb hd))
                  go_ret
                  exact ⟨by first | rfl | simp, HEND.out.trans (HB.out.mono (below_size HEND.out))⟩
            have ht : tg = top := by (repeat' split at htg) <;> omega
            clear htg
            have da1 : decide (tg < lo) = false := decide_eq_false (by omega)
            have da2 : (tg < lo) = False := eq_false (by omega)
            have da3 : decide (tg < lo) = false := decide_eq_false (by omega)
            have da4 : (tg < lo) = False := eq_false (by omega)
            have db1 : decide (tg > top) = false := decide_eq_false (by omega)
            have db2 : (tg > top) = False := eq_false (by omega)
            have db3 : decide (top < tg) = false := decide_eq_false (by omega)
            have db4 : (top < tg) = False := eq_false (by omega)
            have dz1 : (sc == sc) = true := beq_iff_eq.mpr (by omega)
            have dz2 : (sc != sc) = false := by rw [bne, dz1, Bool.not_true]
            have dc1 : (tg == c) = false := beq_false_of_ne (by omega)
            have dc2 : (tg != c) = true := by rw [bne, dc1, Bool.not_false]
            have de1 : (tg == lo) = false := beq_false_of_ne (by omega)
            have de2 : (tg != lo) = true := by rw [bne, de1, Bool.not_false]
            have df1 : (tg == top) = true := beq_iff_eq.mpr (by omega)
            have df2 : (tg != top) = false := by rw [bne, df1, Bool.not_true]
            have dg1 : decide (c ≥ lo) = true := decide_eq_true (by omega)
            have dg2 : (c ≥ lo) = True := eq_true (by omega)
            have dg3 : decide (lo ≤ c) = true := decide_eq_true (by omega)
            have dg4 : (lo ≤ c) = True := eq_true (by omega)
            have dh1 : decide (c ≤ top) = false := decide_eq_false (by omega)
            have dh2 : (c ≤ top) = False := eq_false (by omega)
            have dh3 : decide (c ≤ top) = false := decide_eq_false (by omega)
            have dh4 : (c ≤ top) = False := eq_false (by omega)
            have di1 : decide (c < lo) = false := decide_eq_false (by omega)
            have di2 : (c < lo) = False := eq_false (by omega)
            have di3 : decide (c < lo) = false := decide_eq_false (by omega)
            have di4 : (c < lo) = False := eq_false (by omega)
            clear ht hlt hA hB hC
            go_wp2_with (go_at_call 18; have hN := Cover.calls spF bt T A5 c5 n c sc _ (HG.out.below HB.out) (HTG.out.below HB.out) (Kd.R_reads' HO.out).2.2 (Kd.R_reads' HO.out).2.1 HCV.out; (with_reducible refine hN.mono ?_); clear hN; rintro e w_ ⟨rfl, hb⟩; have n0_ := Aside0.mk (Kd.R_below HO.out hb); have n1_ := Aside0.mk (Kd.R_below HS.out hb); clear HO HS; have HO := n0_; have HS := n1_; clear n0_ n1_; have n_ := Aside0.mk (below_step HB.out hb); clear HB; have HB := n_; clear n_; have n_ := Aside0.mk (blk_below BK2.out hb); clear BK2; have BK2 := n_; clear n_; (try clear y0 yf0 y1 yf1 y2 yf2 y3 yf3 y4 yf4); have y0 : w_.cell? ⟨g2, 0, none⟩ = some (.int .i64 lo) := (blk_cell BK2.out 0).trans rfl; have y1 : w_.cell? ⟨g2, 1, none⟩ = some (.int .i64 top) := (blk_cell BK2.out 1).trans rfl; have y2 : w_.cell? ⟨g2, 2, none⟩ = some (.int .i64 tg) := (blk_cell BK2.out 2).trans rfl; have y3 : w_.cell? ⟨g2, 3, none⟩ = some (.int .i64 sc) := (blk_cell BK2.out 3).trans rfl; have y4 : w_.cell? ⟨g2, 4, none⟩ = some (.slice AS sh.length cS) := (blk_cell BK2.out 4).trans rfl; have yf0 := blk_frozen BK2.out 0; have yf1 := blk_frozen BK2.out 1; have yf2 := blk_frozen BK2.out 2; have yf3 := blk_frozen BK2.out 3; have yf4 := blk_frozen BK2.out 4; clear hb)
            clear da1 da2 da3 da4 db1 db2 db3 db4 dz1 dz2
            (try clear dc1 dc2); (try clear de1 de2); (try clear df1 df2); (try clear dg1 dg2 dg3 dg4); (try clear dh1 dh2 dh3 dh4); (try clear di1 di2 di3 di4)
            go_loopg [23, 24] sh.length (fun gq v23 v24 wr => ∃ (i : Nat), v24 = .int .i64 i ∧ v23 = .int .i64 (sumS sh i) ∧ Aside0 (i ≤ sh.length) ∧ Aside0 (sh.length ≤ gq + i) ∧ Aside0 (Below w1.heap.size w1 wr) ∧ Aside0 (Kd.R (Kd.int .i64) 2 wr w1.heap.size (fun _ => True) (.slice A5 n.length c5) n) ∧ Aside0 (Kd.R (Kd.int .i64) 2 wr w1.heap.size (fun _ => True) (.slice AS sh.length cS) sh) ∧ Aside0 (wr.heap[g2]? = some (.cells #[.int .i64 lo, .int .i64 top, .int .i64 tg, .int .i64 sc, .slice AS sh.length cS] 35 (0, 0))))
            case atStart => exact ⟨0, rfl, rfl, ⟨by omega⟩, ⟨by omega⟩, HB, HO, HS, BK2⟩
            case round =>
              clear HB HO HS BK2 y0 yf0 y1 yf1 y2 yf2 y3 yf3 y4 yf4
              obtain ⟨i, rfl, rfl, HI, HKI, HB, HO, HS, BK2⟩ := hrel
              have y0 : wr.cell? ⟨g2, 0, none⟩ = some (.int .i64 lo) := (blk_cell BK2.out 0).trans rfl
              have y1 : wr.cell? ⟨g2, 1, none⟩ = some (.int .i64 top) := (blk_cell BK2.out 1).trans rfl
              have y2 : wr.cell? ⟨g2, 2, none⟩ = some (.int .i64 tg) := (blk_cell BK2.out 2).trans rfl
              have y3 : wr.cell? ⟨g2, 3, none⟩ = some (.int .i64 sc) := (blk_cell BK2.out 3).trans rfl
              have y4 : wr.cell? ⟨g2, 4, none⟩ = some (.slice AS sh.length cS) := (blk_cell BK2.out 4).trans rfl
              have yf0 := blk_frozen BK2.out 0
              have yf1 := blk_frozen BK2.out 1
              have yf2 := blk_frozen BK2.out 2
              have yf3 := blk_frozen BK2.out 3
              have yf4 := blk_frozen BK2.out 4
              by_cases hlt : i < sh.length
              · have cb1 : decide ((i : Int) < (sh.length : Int)) = true := decide_eq_true (by omega)
                have cb2 : ((i : Int) < (sh.length : Int)) = True := eq_true (by omega)
                have cb3 : (i < sh.length) = True := eq_true (by omega)
                have cb4 : decide (i < sh.length) = true := decide_eq_true (by omega)
                have HLI := Aside0.mk hlt
                have HW : Aside0 (wrap64 ((i : Int) + 1) = ((i + 1 : Nat) : Int)) := ⟨by have := HLEN.out; have := HN8.out; unfold wrap64; omega⟩
                obtain ⟨ad, eA, hx⟩ := Kd.at_int (Kd.R_reads' HS.out).2.2 (i : Int) (by omega) (by omega)
                subst eA
                rw [Int.toNat_natCast] at hx
                clear hlt
                go_wp2
                go_roundg (sh.length - (i + 1))
                case measure => have := HKI.out; have := HLI.out; omega
                case rel => exact ⟨i + 1, by first | rw [HW.out] | rfl, rfl, ⟨by have := HLI.out; omega⟩, ⟨by have := HLI.out; omega⟩, HB, HO, HS, BK2⟩
              · obtain rfl : sh.length = i := by have := HI.out; omega
                have cb1 : decide ((sh.length : Int) < (sh.length : Int)) = false := decide_eq_false (by omega)
                have cb2 : ((sh.length : Int) < (sh.length : Int)) = False := eq_false (by omega)
                have cb3 : (sh.length < sh.length) = False := eq_false (by omega)
                have cb4 : decide (sh.length < sh.length) = false := decide_eq_false (by omega)
                have cs1 : (sumS sh sh.length == tg) = true := beq_iff_eq.mpr HSUM.out
                have cs2 : ((sh.length : Int) == (n.length : Int)) = true := beq_iff_eq.mpr (by have := HLEN.out; omega)
                have cs3 : (sh.length == n.length) = true := beq_iff_eq.mpr HLEN.out
                have cs4 : (lo == lo) = true := beq_iff_eq.mpr rfl
                have cs5 : (top == top) = true := beq_iff_eq.mpr rfl
                clear hlt HI HKI
                go_wp2_with (first
                  | (go_at_call 10; have hN := fund_Calls.calls none 0 [] AS cS sh cl _ (Kd.C_nil _ _) (Nat.zero_le _) (Kd.R_reads' HS.out).2.2 (Kd.R_reads' HS.out).2.1 HCL.out; simp only [List.length_nil] at hN; (with_reducible refine hN.mono ?_); clear hN; rintro e w_ ⟨v_, rfl, ho, hb⟩; obtain ⟨A8, c8, rfl, hl_, hC_⟩ := Kd.R_reads ho; have n0_ := Aside0.mk (Kd.R_below HO.out hb); have n1_ := Aside0.mk (Kd.R_below HS.out hb); clear HO HS; have HO := n0_; have HS := n1_; clear n0_ n1_; have n_ := Aside0.mk (below_step HB.out hb); clear HB; have HB := n_; clear n_; have n_ := Aside0.mk (blk_below BK2.out hb); clear BK2; have BK2 := n_; clear n_; (try clear y0 yf0 y1 yf1 y2 yf2 y3 yf3 y4 yf4); have y0 : w_.cell? ⟨g2, 0, none⟩ = some (.int .i64 lo) := (blk_cell BK2.out 0).trans rfl; have y1 : w_.cell? ⟨g2, 1, none⟩ = some (.int .i64 top) := (blk_cell BK2.out 1).trans rfl; have y2 : w_.cell? ⟨g2, 2, none⟩ = some (.int .i64 tg) := (blk_cell BK2.out 2).trans rfl; have y3 : w_.cell? ⟨g2, 3, none⟩ = some (.int .i64 sc) := (blk_cell BK2.out 3).trans rfl; have y4 : w_.cell? ⟨g2, 4, none⟩ = some (.slice AS sh.length cS) := (blk_cell BK2.out 4).trans rfl; have yf0 := blk_frozen BK2.out 0; have yf1 := blk_frozen BK2.out 1; have yf2 := blk_frozen BK2.out 2; have yf3 := blk_frozen BK2.out 3; have yf4 := blk_frozen BK2.out 4; have HC := Aside0.mk hC_; have HCLN := Aside0.mk hl_; clear ho hb hl_ hC_)
                  | (go_at_call 19; have hN := pledgeref_SameLongs.calls spF A8 c8 cl AS cS sh true _ HC.out HCLN.out (Kd.R_reads' HS.out).2.2 (Kd.R_reads' HS.out).2.1 HSL.out; (with_reducible refine hN.mono ?_); clear hN; rintro e w_ ⟨rfl, hd⟩; have hb := hd.below; have n_ := Aside0.mk (Kd.C_below HC.out hb); clear HC; have HC := n_; clear n_; have n0_ := Aside0.mk (Kd.R_below HO.out hb); have n1_ := Aside0.mk (Kd.R_below HS.out hb); clear HO HS; have HO := n0_; have HS := n1_; clear n0_ n1_; have n_ := Aside0.mk (below_step HB.out hb); clear HB; have HB := n_; clear n_; have n_ := Aside0.mk (blk_below BK2.out hb); clear BK2; have BK2 := n_; clear n_; (try clear y0 yf0 y1 yf1 y2 yf2 y3 yf3 y4 yf4); have y0 : w_.cell? ⟨g2, 0, none⟩ = some (.int .i64 lo) := (blk_cell BK2.out 0).trans rfl; have y1 : w_.cell? ⟨g2, 1, none⟩ = some (.int .i64 top) := (blk_cell BK2.out 1).trans rfl; have y2 : w_.cell? ⟨g2, 2, none⟩ = some (.int .i64 tg) := (blk_cell BK2.out 2).trans rfl; have y3 : w_.cell? ⟨g2, 3, none⟩ = some (.int .i64 sc) := (blk_cell BK2.out 3).trans rfl; have y4 : w_.cell? ⟨g2, 4, none⟩ = some (.slice AS sh.length cS) := (blk_cell BK2.out 4).trans rfl; have yf0 := blk_frozen BK2.out 0; have yf1 := blk_frozen BK2.out 1; have yf2 := blk_frozen BK2.out 2; have yf3 := blk_frozen BK2.out 3; have yf4 := blk_frozen BK2.out 4; clear hb hd))
                go_ret
                exact ⟨by first | rfl | simp, HEND.out.trans (HB.out.mono (below_size HEND.out))⟩

/-- The pure statement of pledgelaw24_FundSizes: numbers and lists alone. -/
def pledgelaw24_FundSizes.Pure : Prop := ∀ (l0 : List (S49)) (a1 : Int) (a2 : Int) (l3 : List Int), l0.length * 24 ≤ 140737488351232 → (l0.length ≤ maxLen ∧ ∀ x ∈ l0, ((Rng .i64 x.f0.f0 ∧ Rng .i64 x.f0.f1) ∧ Rng .i64 x.f1)) → Rng .i64 a1 → Rng .i64 a2 → l3.length * 8 ≤ 140737488351232 → (l3.length ≤ maxLen ∧ ∀ x ∈ l3, Rng .i64 x) → pledgelaw24_FundSizes.f l0 a1 a2 l3 = some true

end Go.Proofs.YtcmdhgcaldpioaaDoor.EFundSizes
