/- The functions that the law comes to, as plain functions, and for each a proof that the Go code comes to just these answers. Written by a program of this claim. Conditions: each theorem bears its own. -/
import Derived.Test.YtmofdacfijobdaaDoorEValueFallsx0
import Derived.Test.YtmofdacfijobdaaDoorEValueFallsx3
import Derived.Test.YtmofdacfijobdaaDoorEValueFallsx4
namespace Go.Proofs.YtmofdacfijobdaaDoor.EValueFalls
open Go.RowKit Go.Proofs.YtmofdacfijobdaaDoorW.PrintWords Go.Proofs.YtmofdacfijobdaaDoorW.PrintLast Go.Proofs.YtmofdacfijobdaaDoorW.PrintMore Go.Proofs.YtmofdacfijobdaaDoorW.PrintOpen
attribute [local go_sem] max2_int min2_int max_two min_two max_three min_three max_four min_four   -- for this text's walks alone
set_option linter.unusedVariables false
set_option linter.unusedSimpArgs false

/-! ### pledgelaw15_ValueFalls: function 4 -/
def vF : Nat := 2000
/-- What Number answers. -/
def numW (a m : Int) : Int := if Int.tmod a m < 0 then wrap64 (Int.tmod a m + m) else Int.tmod a m
theorem numW_f (a m : Int) (h : 0 < m) : pledgeworld_Number.f a m = some (numW a m) := by
  unfold pledgeworld_Number.f numW
  rw [if_neg (by omega)]
  split <;> rfl
/-- What holds of the steps. -/
def fallOK (s u x n o p : Int × Int × Int × Option Int) (ca cb : Int) : Prop := (s.2.2.2 = none ∧ u.2.2.2 = none ∧ x.2.2.2 = none) ∧ s.2.2.1 ≤ u.2.2.1 ∧ s.2.1 ≤ u.2.1 ∧ s.2.2.1 ≤ s.2.1 ∧ (ca ≤ cb → x.2.2.1 ≤ s.2.2.1) ∧ n.2.2.1 = 0 ∧ o.2.2.1 = 0 ∧ p.2.2.1 = 0 ∧ n.2.1 = s.2.1 ∧ o.1 = s.1 ∧ p.2.1 = s.2.1
instance (s u x n o p : Int × Int × Int × Option Int) (ca cb : Int) : Decidable (fallOK s u x n o p ca cb) := by unfold fallOK; infer_instance
/-- The law's answer, where its facts hold. -/
def fallF (q mo pr ra ca cb : Int) : Option Bool := (value_Of.f vF 1 4 2 3 0 q 5 0 true pr ra ca).bind fun s => (value_Of.f vF 1 4 2 3 0 mo 5 0 true pr ra ca).bind fun u => (value_Of.f vF 1 4 2 3 0 q 5 0 true pr ra cb).bind fun x => (value_Of.f vF 1 4 2 3 0 q 5 0 false pr ra ca).bind fun n => (value_Of.f vF 1 4 2 3 0 q 5 4 true pr ra ca).bind fun o => (value_Of.f vF 1 4 2 3 5 q 5 0 true pr ra ca).bind fun p => if fallOK s u x n o p ca cb then some true else none
def pledgelaw15_ValueFalls.f (a0 a1 a2 a3 a4 a5 : Int) : Option Bool := (pledgelaw15_first.f vF).bind fun t => if t = true then fallF (numW a0 1000000) (wrap64 (numW a0 1000000 + numW a1 1000000)) (numW a2 1000000) (numW a3 3000000) (numW a4 10001) (numW a5 10001) else some false
set_option maxHeartbeats 16000000 in
set_option maxRecDepth 1000000 in
theorem pledgelaw15_ValueFalls.calls [Inhabited (Int → Addr)] (a0 a1 a2 a3 a4 a5 : Int) (r : Bool) (w : World) (hG : GlobOK w) (h : pledgelaw15_ValueFalls.f a0 a1 a2 a3 a4 a5 = some r) :
    Calls Tryd.prog 4 #[.int .i64 a0, .int .i64 a1, .int .i64 a2, .int .i64 a3, .int .i64 a4, .int .i64 a5] w fun e w' => e = .returned (.bool r) ∧ Below w.heap.size w w' := by
  have hu1 := Tryd.underlying25
  have hu2 := Tryd.underlying23
  have hu3 := Tryd.underlying28
  have HG := Aside0.mk hG
  have HB := Aside0.mk (Below.refl w.heap.size w)
  clear hG
  unfold pledgelaw15_ValueFalls.f at h
  obtain ⟨t, h1, h⟩ := Option.bind_eq_some_iff.mp h
  have H1 := Aside0.mk h1
  clear h1
  cases t with
  | false =>
    rw [if_neg (by simp)] at h
    obtain rfl := Option.some.inj h
    clear h
    go_enter Tryd.func4, Tryd.ntmps4
    go_wp2_with (go_at_call 7; refine (pledgelaw15_first.calls vF false _ (HG.out.below HB.out) H1.out).mono ?_; rintro e w_ ⟨rfl, hb⟩; have n_ := Aside0.mk (below_step HB.out hb); clear HB; have HB := n_; clear n_; clear hb)
    go_ret
    exact ⟨rfl, HB.out⟩
  | true =>
  rw [if_pos rfl] at h
  obtain ⟨q, hq⟩ : ∃ z, z = numW a0 1000000 := ⟨_, rfl⟩
  obtain ⟨p1, hp1⟩ : ∃ z, z = numW a1 1000000 := ⟨_, rfl⟩
  obtain ⟨pr, hpr⟩ : ∃ z, z = numW a2 1000000 := ⟨_, rfl⟩
  obtain ⟨ra, hra⟩ : ∃ z, z = numW a3 3000000 := ⟨_, rfl⟩
  obtain ⟨ca, hca⟩ : ∃ z, z = numW a4 10001 := ⟨_, rfl⟩
  obtain ⟨cb, hcb⟩ : ∃ z, z = numW a5 10001 := ⟨_, rfl⟩
  rw [← hq, ← hp1, ← hpr, ← hra, ← hca, ← hcb] at h
  obtain ⟨mo, hmo⟩ : ∃ z, z = wrap64 (q + p1) := ⟨_, rfl⟩
  rw [← hmo] at h
  have HMO := hmo.symm
  have Hq := Aside0.mk hq
  have Hp1 := Aside0.mk hp1
  have Hpr := Aside0.mk hpr
  have Hra := Aside0.mk hra
  have Hca := Aside0.mk hca
  have Hcb := Aside0.mk hcb
  clear hq hp1 hpr hra hca hcb hmo
  unfold fallF at h
  obtain ⟨⟨sw, sb, sv, se⟩, hs, h⟩ := Option.bind_eq_some_iff.mp h
  obtain ⟨⟨uw, ub, uv, ue⟩, hu, h⟩ := Option.bind_eq_some_iff.mp h
  obtain ⟨⟨xw, xb, xv, xe⟩, hx, h⟩ := Option.bind_eq_some_iff.mp h
  obtain ⟨⟨nw, nb, nv, ne⟩, hn, h⟩ := Option.bind_eq_some_iff.mp h
  obtain ⟨⟨ow, ob, ov, oe⟩, ho, h⟩ := Option.bind_eq_some_iff.mp h
  obtain ⟨⟨pw, pb, pv, pe⟩, hp, h⟩ := Option.bind_eq_some_iff.mp h
  by_cases hok : fallOK (sw, sb, sv, se) (uw, ub, uv, ue) (xw, xb, xv, xe) (nw, nb, nv, ne) (ow, ob, ov, oe) (pw, pb, pv, pe) ca cb
  rotate_left
  · rw [if_neg hok] at h; exact absurd h (by simp)
  rw [if_pos hok] at h
  obtain rfl := Option.some.inj h
  clear h
  unfold fallOK at hok
  obtain ⟨⟨k1, k2, k3⟩, k4, k5, k6, k7, k8, k9, k10, k11, k12, k13⟩ := hok
  simp only [] at k1 k2 k3 k4 k5 k6 k7 k8 k9 k10 k11 k12 k13
  subst k1
  subst k2
  subst k3
  have HS := Aside0.mk hs
  have HU := Aside0.mk hu
  have HX := Aside0.mk hx
  have HN := Aside0.mk hn
  have HO := Aside0.mk ho
  have HP := Aside0.mk hp
  have K4 := Aside0.mk k4
  have K5 := Aside0.mk k5
  have K6 := Aside0.mk k6
  have K7 := Aside0.mk k7
  have K8 := Aside0.mk (And.intro k8 (And.intro k9 (And.intro k10 (And.intro k11 (And.intro k12 k13)))))
  clear hs hu hx hn ho hp k4 k5 k6 k7 k8 k9 k10 k11 k12 k13
  go_enter Tryd.func4, Tryd.ntmps4
  go_upto_region 7 with (first
    | (go_at_call 7; refine (pledgelaw15_first.calls vF true _ (HG.out.below HB.out) H1.out).mono ?_; rintro e w_ ⟨rfl, hb⟩; have n_ := Aside0.mk (below_step HB.out hb); clear HB; have HB := n_; clear n_; clear hb)
    | (go_at_call 14; have hN := fun W_ => pledgeworld_Number.calls a0 1000000 q W_ (by have e_ := numW_f a0 1000000 (by omega); rw [← Hq.out] at e_; exact e_); (with_reducible refine (hN _).mono ?_); clear hN; rintro e w_ ⟨rfl, hd⟩; have hb := hd.below; have n_ := Aside0.mk (below_step HB.out hb); clear HB; have HB := n_; clear n_; clear hb hd)
    | (go_at_call 14; have hN := fun W_ => pledgeworld_Number.calls a1 1000000 p1 W_ (by have e_ := numW_f a1 1000000 (by omega); rw [← Hp1.out] at e_; exact e_); (with_reducible refine (hN _).mono ?_); clear hN; rintro e w_ ⟨rfl, hd⟩; have hb := hd.below; have n_ := Aside0.mk (below_step HB.out hb); clear HB; have HB := n_; clear n_; clear hb hd)
    | (go_at_call 14; have hN := fun W_ => pledgeworld_Number.calls a2 1000000 pr W_ (by have e_ := numW_f a2 1000000 (by omega); rw [← Hpr.out] at e_; exact e_); (with_reducible refine (hN _).mono ?_); clear hN; rintro e w_ ⟨rfl, hd⟩; have hb := hd.below; have n_ := Aside0.mk (below_step HB.out hb); clear HB; have HB := n_; clear n_; clear hb hd)
    | (go_at_call 14; have hN := fun W_ => pledgeworld_Number.calls a3 3000000 ra W_ (by have e_ := numW_f a3 3000000 (by omega); rw [← Hra.out] at e_; exact e_); (with_reducible refine (hN _).mono ?_); clear hN; rintro e w_ ⟨rfl, hd⟩; have hb := hd.below; have n_ := Aside0.mk (below_step HB.out hb); clear HB; have HB := n_; clear n_; clear hb hd)
    | (go_at_call 14; have hN := fun W_ => pledgeworld_Number.calls a4 10001 ca W_ (by have e_ := numW_f a4 10001 (by omega); rw [← Hca.out] at e_; exact e_); (with_reducible refine (hN _).mono ?_); clear hN; rintro e w_ ⟨rfl, hd⟩; have hb := hd.below; have n_ := Aside0.mk (below_step HB.out hb); clear HB; have HB := n_; clear n_; clear hb hd)
    | ((with_reducible refine gate_dst (N := 16) rfl ?_); refine box_event ?hg (N := 16) ?hd (cs := #[.int .i64 0, .int .i64 0, .bool false, .int .i64 0, .int .i64 0, .int .i64 0]) (t := 25) ?hr ?_; (case hd => rfl); (case hg => rfl); (case hr => first | (go_simp; done) | (go_simp; rfl)); intro g16 hg_ w_ hbox hb; skip; have HG16 := Aside0.mk (show w.heap.size ≤ g16 from Nat.le_trans (below_size HB.out) (Nat.le_of_eq hg_.symm)); have n_ := Aside0.mk (below_step HB.out hb); clear HB; have HB := n_; clear n_; have BK16 := Aside0.mk hbox; clear hb hbox hg_; have c16_0 : w_.cell? ⟨g16, 0, none⟩ = some (.int .i64 0) := (blk_cell BK16.out 0).trans rfl; have z16_0 := blk_frozen BK16.out 0; have c16_1 : w_.cell? ⟨g16, 1, none⟩ = some (.int .i64 0) := (blk_cell BK16.out 1).trans rfl; have z16_1 := blk_frozen BK16.out 1; have c16_2 : w_.cell? ⟨g16, 2, none⟩ = some (.bool false) := (blk_cell BK16.out 2).trans rfl; have z16_2 := blk_frozen BK16.out 2; have c16_3 : w_.cell? ⟨g16, 3, none⟩ = some (.int .i64 0) := (blk_cell BK16.out 3).trans rfl; have z16_3 := blk_frozen BK16.out 3; have c16_4 : w_.cell? ⟨g16, 4, none⟩ = some (.int .i64 0) := (blk_cell BK16.out 4).trans rfl; have z16_4 := blk_frozen BK16.out 4; have c16_5 : w_.cell? ⟨g16, 5, none⟩ = some (.int .i64 0) := (blk_cell BK16.out 5).trans rfl; have z16_5 := blk_frozen BK16.out 5))
  have n0_ := Aside0.mk ((((((HB.out.setCell (p := ⟨g16, 0, none⟩) HG16.out (.int .i64 5)).setCell (p := ⟨g16, 1, none⟩) HG16.out (.int .i64 0)).setCell (p := ⟨g16, 2, none⟩) HG16.out (.bool true)).setCell (p := ⟨g16, 3, none⟩) HG16.out (.int .i64 pr)).setCell (p := ⟨g16, 4, none⟩) HG16.out (.int .i64 ra)).setCell (p := ⟨g16, 5, none⟩) HG16.out (.int .i64 ca))
  have m16_ := Aside0.mk (blk_put (blk_put (blk_put (blk_put (blk_put (blk_put BK16.out 0 (.int .i64 5) rfl) 1 (.int .i64 0) rfl) 2 (.bool true) rfl) 3 (.int .i64 pr) rfl) 4 (.int .i64 ra) rfl) 5 (.int .i64 ca) rfl)
  clear HB BK16  c16_0 z16_0 c16_1 z16_1 c16_2 z16_2 c16_3 z16_3 c16_4 z16_4 c16_5 z16_5
  generalize ((((((w_.setCell ⟨g16, 0, none⟩ (.int .i64 5)).setCell ⟨g16, 1, none⟩ (.int .i64 0)).setCell ⟨g16, 2, none⟩ (.bool true)).setCell ⟨g16, 3, none⟩ (.int .i64 pr)).setCell ⟨g16, 4, none⟩ (.int .i64 ra)).setCell ⟨g16, 5, none⟩ (.int .i64 ca)) = v1 at n0_ m16_ ⊢
  have HB := n0_
  have BK16 : Aside0 (v1.heap[g16]? = some (.cells #[.int .i64 5, .int .i64 0, .bool true, .int .i64 pr, .int .i64 ra, .int .i64 ca] 25 (0, 0))) := ⟨m16_.out.trans rfl⟩
  clear n0_ m16_
  go_upto_region 8 with (first
    | ((with_reducible refine gate_dst (N := 17) rfl ?_); refine box_event ?hg (N := 17) ?hd (cs := #[.int .i64 0, .int .i64 0, .int .i64 0, .int .i64 0, .int .i64 0]) (t := 23) ?hr ?_; (case hd => rfl); (case hg => rfl); (case hr => first | (go_simp; done) | (go_simp; rfl)); intro g17 hg_ w_ hbox hb; have HN16_17 := Aside0.mk (show g16 ≠ g17 from by have := blk_lt BK16.out; omega); have HG17 := Aside0.mk (show w.heap.size ≤ g17 from Nat.le_trans (below_size HB.out) (Nat.le_of_eq hg_.symm)); have n_ := Aside0.mk (below_step HB.out hb); clear HB; have HB := n_; clear n_; have n_ := Aside0.mk (blk_below BK16.out hb); (try clear c16_0); clear BK16; have BK16 := n_; clear n_; have BK17 := Aside0.mk hbox; clear hb hbox hg_; have c17_0 : w_.cell? ⟨g17, 0, none⟩ = some (.int .i64 0) := (blk_cell BK17.out 0).trans rfl; have z17_0 := blk_frozen BK17.out 0; have c17_1 : w_.cell? ⟨g17, 1, none⟩ = some (.int .i64 0) := (blk_cell BK17.out 1).trans rfl; have z17_1 := blk_frozen BK17.out 1; have c17_2 : w_.cell? ⟨g17, 2, none⟩ = some (.int .i64 0) := (blk_cell BK17.out 2).trans rfl; have z17_2 := blk_frozen BK17.out 2; have c17_3 : w_.cell? ⟨g17, 3, none⟩ = some (.int .i64 0) := (blk_cell BK17.out 3).trans rfl; have z17_3 := blk_frozen BK17.out 3; have c17_4 : w_.cell? ⟨g17, 4, none⟩ = some (.int .i64 0) := (blk_cell BK17.out 4).trans rfl; have z17_4 := blk_frozen BK17.out 4))
  have n0_ := Aside0.mk (((((HB.out.setCell (p := ⟨g17, 0, none⟩) HG17.out (.int .i64 1)).setCell (p := ⟨g17, 1, none⟩) HG17.out (.int .i64 4)).setCell (p := ⟨g17, 2, none⟩) HG17.out (.int .i64 2)).setCell (p := ⟨g17, 3, none⟩) HG17.out (.int .i64 3)).setCell (p := ⟨g17, 4, none⟩) HG17.out (.int .i64 0))
  have m17_ := Aside0.mk (blk_put (blk_put (blk_put (blk_put (blk_put BK17.out 0 (.int .i64 1) rfl) 1 (.int .i64 4) rfl) 2 (.int .i64 2) rfl) 3 (.int .i64 3) rfl) 4 (.int .i64 0) rfl)
  have m16_ := Aside0.mk ((Below.heap_setCell _ ⟨g17, 4, none⟩ (.int .i64 0) g16 (HN16_17.out)).trans ((Below.heap_setCell _ ⟨g17, 3, none⟩ (.int .i64 3) g16 (HN16_17.out)).trans ((Below.heap_setCell _ ⟨g17, 2, none⟩ (.int .i64 2) g16 (HN16_17.out)).trans ((Below.heap_setCell _ ⟨g17, 1, none⟩ (.int .i64 4) g16 (HN16_17.out)).trans ((Below.heap_setCell _ ⟨g17, 0, none⟩ (.int .i64 1) g16 (HN16_17.out)).trans BK16.out)))))
  clear HB BK16 BK17  c17_0 z17_0 c17_1 z17_1 c17_2 z17_2 c17_3 z17_3 c17_4 z17_4
  generalize (((((w_.setCell ⟨g17, 0, none⟩ (.int .i64 1)).setCell ⟨g17, 1, none⟩ (.int .i64 4)).setCell ⟨g17, 2, none⟩ (.int .i64 2)).setCell ⟨g17, 3, none⟩ (.int .i64 3)).setCell ⟨g17, 4, none⟩ (.int .i64 0)) = v2 at n0_ m16_ m17_ ⊢
  have HB := n0_
  have BK16 : Aside0 (v2.heap[g16]? = some (.cells #[.int .i64 5, .int .i64 0, .bool true, .int .i64 pr, .int .i64 ra, .int .i64 ca] 25 (0, 0))) := ⟨m16_.out.trans rfl⟩
  have BK17 : Aside0 (v2.heap[g17]? = some (.cells #[.int .i64 1, .int .i64 4, .int .i64 2, .int .i64 3, .int .i64 0] 23 (0, 0))) := ⟨m17_.out.trans rfl⟩
  clear n0_ m16_ m17_
  have c16_0 : v2.cell? ⟨g16, 0, none⟩ = some (.int .i64 5) := (blk_cell BK16.out 0).trans rfl
  have z16_0 := blk_frozen BK16.out 0
  have c16_1 : v2.cell? ⟨g16, 1, none⟩ = some (.int .i64 0) := (blk_cell BK16.out 1).trans rfl
  have z16_1 := blk_frozen BK16.out 1
  have c16_2 : v2.cell? ⟨g16, 2, none⟩ = some (.bool true) := (blk_cell BK16.out 2).trans rfl
  have z16_2 := blk_frozen BK16.out 2
  have c16_3 : v2.cell? ⟨g16, 3, none⟩ = some (.int .i64 pr) := (blk_cell BK16.out 3).trans rfl
  have z16_3 := blk_frozen BK16.out 3
  have c16_4 : v2.cell? ⟨g16, 4, none⟩ = some (.int .i64 ra) := (blk_cell BK16.out 4).trans rfl
  have z16_4 := blk_frozen BK16.out 4
  have c16_5 : v2.cell? ⟨g16, 5, none⟩ = some (.int .i64 ca) := (blk_cell BK16.out 5).trans rfl
  have z16_5 := blk_frozen BK16.out 5
  have c17_0 : v2.cell? ⟨g17, 0, none⟩ = some (.int .i64 1) := (blk_cell BK17.out 0).trans rfl
  have z17_0 := blk_frozen BK17.out 0
  have c17_1 : v2.cell? ⟨g17, 1, none⟩ = some (.int .i64 4) := (blk_cell BK17.out 1).trans rfl
  have z17_1 := blk_frozen BK17.out 1
  have c17_2 : v2.cell? ⟨g17, 2, none⟩ = some (.int .i64 2) := (blk_cell BK17.out 2).trans rfl
  have z17_2 := blk_frozen BK17.out 2
  have c17_3 : v2.cell? ⟨g17, 3, none⟩ = some (.int .i64 3) := (blk_cell BK17.out 3).trans rfl
  have z17_3 := blk_frozen BK17.out 3
  have c17_4 : v2.cell? ⟨g17, 4, none⟩ = some (.int .i64 0) := (blk_cell BK17.out 4).trans rfl
  have z17_4 := blk_frozen BK17.out 4
  go_upto_region 9 with (first
    | (go_at_call 8; have hN := value_Of.calls vF 1 4 2 3 0 q 5 0 true pr ra ca sw sb sv none _ (HG.out.below HB.out) HS.out; simp only [errW_none] at hN; (with_reducible refine hN.mono ?_); clear hN; rintro e_ w_ ⟨rfl, hb⟩; have n_ := Aside0.mk (below_step HB.out hb); clear HB; have HB := n_; clear n_; have n_ := Aside0.mk (blk_below BK16.out hb); (try clear c16_0 z16_0 c16_1 z16_1 c16_2 z16_2 c16_3 z16_3 c16_4 z16_4 c16_5 z16_5); clear BK16; have BK16 := n_; clear n_; have n_ := Aside0.mk (blk_below BK17.out hb); (try clear c17_0 z17_0 c17_1 z17_1 c17_2 z17_2 c17_3 z17_3 c17_4 z17_4); clear BK17; have BK17 := n_; clear n_; have c16_0 : w_.cell? ⟨g16, 0, none⟩ = some (.int .i64 5) := (blk_cell BK16.out 0).trans rfl; have z16_0 := blk_frozen BK16.out 0; have c16_1 : w_.cell? ⟨g16, 1, none⟩ = some (.int .i64 0) := (blk_cell BK16.out 1).trans rfl; have z16_1 := blk_frozen BK16.out 1; have c16_2 : w_.cell? ⟨g16, 2, none⟩ = some (.bool true) := (blk_cell BK16.out 2).trans rfl; have z16_2 := blk_frozen BK16.out 2; have c16_3 : w_.cell? ⟨g16, 3, none⟩ = some (.int .i64 pr) := (blk_cell BK16.out 3).trans rfl; have z16_3 := blk_frozen BK16.out 3; have c16_4 : w_.cell? ⟨g16, 4, none⟩ = some (.int .i64 ra) := (blk_cell BK16.out 4).trans rfl; have z16_4 := blk_frozen BK16.out 4; have c16_5 : w_.cell? ⟨g16, 5, none⟩ = some (.int .i64 ca) := (blk_cell BK16.out 5).trans rfl; have z16_5 := blk_frozen BK16.out 5; have c17_0 : w_.cell? ⟨g17, 0, none⟩ = some (.int .i64 1) := (blk_cell BK17.out 0).trans rfl; have z17_0 := blk_frozen BK17.out 0; have c17_1 : w_.cell? ⟨g17, 1, none⟩ = some (.int .i64 4) := (blk_cell BK17.out 1).trans rfl; have z17_1 := blk_frozen BK17.out 1; have c17_2 : w_.cell? ⟨g17, 2, none⟩ = some (.int .i64 2) := (blk_cell BK17.out 2).trans rfl; have z17_2 := blk_frozen BK17.out 2; have c17_3 : w_.cell? ⟨g17, 3, none⟩ = some (.int .i64 3) := (blk_cell BK17.out 3).trans rfl; have z17_3 := blk_frozen BK17.out 3; have c17_4 : w_.cell? ⟨g17, 4, none⟩ = some (.int .i64 0) := (blk_cell BK17.out 4).trans rfl; have z17_4 := blk_frozen BK17.out 4; clear hb)
    | ((with_reducible refine gate_dst (N := 18) rfl ?_); refine box_event ?hg (N := 18) ?hd (cs := #[.int .i64 0, .int .i64 0, .int .i64 0]) (t := 28) ?hr ?_; (case hd => rfl); (case hg => rfl); (case hr => first | (go_simp; done) | (go_simp; rfl)); intro g18 hg_ w_ hbox hb; have HN16_18 := Aside0.mk (show g16 ≠ g18 from by have := blk_lt BK16.out; omega); have HN17_18 := Aside0.mk (show g17 ≠ g18 from by have := blk_lt BK17.out; omega); have HG18 := Aside0.mk (show w.heap.size ≤ g18 from Nat.le_trans (below_size HB.out) (Nat.le_of_eq hg_.symm)); have n_ := Aside0.mk (below_step HB.out hb); clear HB; have HB := n_; clear n_; have n_ := Aside0.mk (blk_below BK16.out hb); (try clear c16_0 z16_0 c16_1 z16_1 c16_2 z16_2 c16_3 z16_3 c16_4 z16_4 c16_5 z16_5); clear BK16; have BK16 := n_; clear n_; have n_ := Aside0.mk (blk_below BK17.out hb); (try clear c17_0 z17_0 c17_1 z17_1 c17_2 z17_2 c17_3 z17_3 c17_4 z17_4); clear BK17; have BK17 := n_; clear n_; have c16_0 : w_.cell? ⟨g16, 0, none⟩ = some (.int .i64 5) := (blk_cell BK16.out 0).trans rfl; have z16_0 := blk_frozen BK16.out 0; have c16_1 : w_.cell? ⟨g16, 1, none⟩ = some (.int .i64 0) := (blk_cell BK16.out 1).trans rfl; have z16_1 := blk_frozen BK16.out 1; have c16_2 : w_.cell? ⟨g16, 2, none⟩ = some (.bool true) := (blk_cell BK16.out 2).trans rfl; have z16_2 := blk_frozen BK16.out 2; have c16_3 : w_.cell? ⟨g16, 3, none⟩ = some (.int .i64 pr) := (blk_cell BK16.out 3).trans rfl; have z16_3 := blk_frozen BK16.out 3; have c16_4 : w_.cell? ⟨g16, 4, none⟩ = some (.int .i64 ra) := (blk_cell BK16.out 4).trans rfl; have z16_4 := blk_frozen BK16.out 4; have c16_5 : w_.cell? ⟨g16, 5, none⟩ = some (.int .i64 ca) := (blk_cell BK16.out 5).trans rfl; have z16_5 := blk_frozen BK16.out 5; have c17_0 : w_.cell? ⟨g17, 0, none⟩ = some (.int .i64 1) := (blk_cell BK17.out 0).trans rfl; have z17_0 := blk_frozen BK17.out 0; have c17_1 : w_.cell? ⟨g17, 1, none⟩ = some (.int .i64 4) := (blk_cell BK17.out 1).trans rfl; have z17_1 := blk_frozen BK17.out 1; have c17_2 : w_.cell? ⟨g17, 2, none⟩ = some (.int .i64 2) := (blk_cell BK17.out 2).trans rfl; have z17_2 := blk_frozen BK17.out 2; have c17_3 : w_.cell? ⟨g17, 3, none⟩ = some (.int .i64 3) := (blk_cell BK17.out 3).trans rfl; have z17_3 := blk_frozen BK17.out 3; have c17_4 : w_.cell? ⟨g17, 4, none⟩ = some (.int .i64 0) := (blk_cell BK17.out 4).trans rfl; have z17_4 := blk_frozen BK17.out 4; have BK18 := Aside0.mk hbox; clear hb hbox hg_; have c18_0 : w_.cell? ⟨g18, 0, none⟩ = some (.int .i64 0) := (blk_cell BK18.out 0).trans rfl; have z18_0 := blk_frozen BK18.out 0; have c18_1 : w_.cell? ⟨g18, 1, none⟩ = some (.int .i64 0) := (blk_cell BK18.out 1).trans rfl; have z18_1 := blk_frozen BK18.out 1; have c18_2 : w_.cell? ⟨g18, 2, none⟩ = some (.int .i64 0) := (blk_cell BK18.out 2).trans rfl; have z18_2 := blk_frozen BK18.out 2))
  have n0_ := Aside0.mk (((HB.out.setCell (p := ⟨g18, 0, none⟩) HG18.out (.int .i64 sw)).setCell (p := ⟨g18, 1, none⟩) HG18.out (.int .i64 sb)).setCell (p := ⟨g18, 2, none⟩) HG18.out (.int .i64 sv))
  have m18_ := Aside0.mk (blk_put (blk_put (blk_put BK18.out 0 (.int .i64 sw) rfl) 1 (.int .i64 sb) rfl) 2 (.int .i64 sv) rfl)
  have m16_ := Aside0.mk ((Below.heap_setCell _ ⟨g18, 2, none⟩ (.int .i64 sv) g16 (HN16_18.out)).trans ((Below.heap_setCell _ ⟨g18, 1, none⟩ (.int .i64 sb) g16 (HN16_18.out)).trans ((Below.heap_setCell _ ⟨g18, 0, none⟩ (.int .i64 sw) g16 (HN16_18.out)).trans BK16.out)))
  have m17_ := Aside0.mk ((Below.heap_setCell _ ⟨g18, 2, none⟩ (.int .i64 sv) g17 (HN17_18.out)).trans ((Below.heap_setCell _ ⟨g18, 1, none⟩ (.int .i64 sb) g17 (HN17_18.out)).trans ((Below.heap_setCell _ ⟨g18, 0, none⟩ (.int .i64 sw) g17 (HN17_18.out)).trans BK17.out)))
  clear HB BK16 BK17 BK18 c16_0 z16_0 c16_1 z16_1 c16_2 z16_2 c16_3 z16_3 c16_4 z16_4 c16_5 z16_5 c17_0 z17_0 c17_1 z17_1 c17_2 z17_2 c17_3 z17_3 c17_4 z17_4 c18_0 z18_0 c18_1 z18_1 c18_2 z18_2
  generalize (((w_.setCell ⟨g18, 0, none⟩ (.int .i64 sw)).setCell ⟨g18, 1, none⟩ (.int .i64 sb)).setCell ⟨g18, 2, none⟩ (.int .i64 sv)) = v3 at n0_ m16_ m17_ m18_ ⊢
  have HB := n0_
  have BK16 : Aside0 (v3.heap[g16]? = some (.cells #[.int .i64 5, .int .i64 0, .bool true, .int .i64 pr, .int .i64 ra, .int .i64 ca] 25 (0, 0))) := ⟨m16_.out.trans rfl⟩
  have BK17 : Aside0 (v3.heap[g17]? = some (.cells #[.int .i64 1, .int .i64 4, .int .i64 2, .int .i64 3, .int .i64 0] 23 (0, 0))) := ⟨m17_.out.trans rfl⟩
  have BK18 : Aside0 (v3.heap[g18]? = some (.cells #[.int .i64 sw, .int .i64 sb, .int .i64 sv] 28 (0, 0))) := ⟨m18_.out.trans rfl⟩
  clear n0_ m16_ m17_ m18_
  have c16_0 : v3.cell? ⟨g16, 0, none⟩ = some (.int .i64 5) := (blk_cell BK16.out 0).trans rfl
  have z16_0 := blk_frozen BK16.out 0
  have c16_1 : v3.cell? ⟨g16, 1, none⟩ = some (.int .i64 0) := (blk_cell BK16.out 1).trans rfl
  have z16_1 := blk_frozen BK16.out 1
  have c16_2 : v3.cell? ⟨g16, 2, none⟩ = some (.bool true) := (blk_cell BK16.out 2).trans rfl
  have z16_2 := blk_frozen BK16.out 2
  have c16_3 : v3.cell? ⟨g16, 3, none⟩ = some (.int .i64 pr) := (blk_cell BK16.out 3).trans rfl
  have z16_3 := blk_frozen BK16.out 3
  have c16_4 : v3.cell? ⟨g16, 4, none⟩ = some (.int .i64 ra) := (blk_cell BK16.out 4).trans rfl
  have z16_4 := blk_frozen BK16.out 4
  have c16_5 : v3.cell? ⟨g16, 5, none⟩ = some (.int .i64 ca) := (blk_cell BK16.out 5).trans rfl
  have z16_5 := blk_frozen BK16.out 5
  have c17_0 : v3.cell? ⟨g17, 0, none⟩ = some (.int .i64 1) := (blk_cell BK17.out 0).trans rfl
  have z17_0 := blk_frozen BK17.out 0
  have c17_1 : v3.cell? ⟨g17, 1, none⟩ = some (.int .i64 4) := (blk_cell BK17.out 1).trans rfl
  have z17_1 := blk_frozen BK17.out 1
  have c17_2 : v3.cell? ⟨g17, 2, none⟩ = some (.int .i64 2) := (blk_cell BK17.out 2).trans rfl
  have z17_2 := blk_frozen BK17.out 2
  have c17_3 : v3.cell? ⟨g17, 3, none⟩ = some (.int .i64 3) := (blk_cell BK17.out 3).trans rfl
  have z17_3 := blk_frozen BK17.out 3
  have c17_4 : v3.cell? ⟨g17, 4, none⟩ = some (.int .i64 0) := (blk_cell BK17.out 4).trans rfl
  have z17_4 := blk_frozen BK17.out 4
  go_upto_region 10 with (first
    | (go_at_call 8; have hN := value_Of.calls vF 1 4 2 3 0 mo 5 0 true pr ra ca uw ub uv none _ (HG.out.below HB.out) HU.out; simp only [errW_none] at hN; (with_reducible refine hN.mono ?_); clear hN; rintro e_ w_ ⟨rfl, hb⟩; have n_ := Aside0.mk (below_step HB.out hb); clear HB; have HB := n_; clear n_; have n_ := Aside0.mk (blk_below BK16.out hb); (try clear c16_0 z16_0 c16_1 z16_1 c16_2 z16_2 c16_3 z16_3 c16_4 z16_4 c16_5 z16_5); clear BK16; have BK16 := n_; clear n_; have n_ := Aside0.mk (blk_below BK17.out hb); (try clear c17_0 z17_0 c17_1 z17_1 c17_2 z17_2 c17_3 z17_3 c17_4 z17_4); clear BK17; have BK17 := n_; clear n_; have n_ := Aside0.mk (blk_below BK18.out hb); (try clear c18_0); clear BK18; have BK18 := n_; clear n_; have c16_0 : w_.cell? ⟨g16, 0, none⟩ = some (.int .i64 5) := (blk_cell BK16.out 0).trans rfl; have z16_0 := blk_frozen BK16.out 0; have c16_1 : w_.cell? ⟨g16, 1, none⟩ = some (.int .i64 0) := (blk_cell BK16.out 1).trans rfl; have z16_1 := blk_frozen BK16.out 1; have c16_2 : w_.cell? ⟨g16, 2, none⟩ = some (.bool true) := (blk_cell BK16.out 2).trans rfl; have z16_2 := blk_frozen BK16.out 2; have c16_3 : w_.cell? ⟨g16, 3, none⟩ = some (.int .i64 pr) := (blk_cell BK16.out 3).trans rfl; have z16_3 := blk_frozen BK16.out 3; have c16_4 : w_.cell? ⟨g16, 4, none⟩ = some (.int .i64 ra) := (blk_cell BK16.out 4).trans rfl; have z16_4 := blk_frozen BK16.out 4; have c16_5 : w_.cell? ⟨g16, 5, none⟩ = some (.int .i64 ca) := (blk_cell BK16.out 5).trans rfl; have z16_5 := blk_frozen BK16.out 5; have c17_0 : w_.cell? ⟨g17, 0, none⟩ = some (.int .i64 1) := (blk_cell BK17.out 0).trans rfl; have z17_0 := blk_frozen BK17.out 0; have c17_1 : w_.cell? ⟨g17, 1, none⟩ = some (.int .i64 4) := (blk_cell BK17.out 1).trans rfl; have z17_1 := blk_frozen BK17.out 1; have c17_2 : w_.cell? ⟨g17, 2, none⟩ = some (.int .i64 2) := (blk_cell BK17.out 2).trans rfl; have z17_2 := blk_frozen BK17.out 2; have c17_3 : w_.cell? ⟨g17, 3, none⟩ = some (.int .i64 3) := (blk_cell BK17.out 3).trans rfl; have z17_3 := blk_frozen BK17.out 3; have c17_4 : w_.cell? ⟨g17, 4, none⟩ = some (.int .i64 0) := (blk_cell BK17.out 4).trans rfl; have z17_4 := blk_frozen BK17.out 4; clear hb)
    | ((with_reducible refine gate_dst (N := 20) rfl ?_); refine box_event ?hg (N := 20) ?hd (cs := #[.int .i64 0, .int .i64 0, .int .i64 0]) (t := 28) ?hr ?_; (case hd => rfl); (case hg => rfl); (case hr => first | (go_simp; done) | (go_simp; rfl)); intro g20 hg_ w_ hbox hb; have HN16_20 := Aside0.mk (show g16 ≠ g20 from by have := blk_lt BK16.out; omega); have HN17_20 := Aside0.mk (show g17 ≠ g20 from by have := blk_lt BK17.out; omega); have HN18_20 := Aside0.mk (show g18 ≠ g20 from by have := blk_lt BK18.out; omega); have HG20 := Aside0.mk (show w.heap.size ≤ g20 from Nat.le_trans (below_size HB.out) (Nat.le_of_eq hg_.symm)); have n_ := Aside0.mk (below_step HB.out hb); clear HB; have HB := n_; clear n_; have n_ := Aside0.mk (blk_below BK16.out hb); (try clear c16_0 z16_0 c16_1 z16_1 c16_2 z16_2 c16_3 z16_3 c16_4 z16_4 c16_5 z16_5); clear BK16; have BK16 := n_; clear n_; have n_ := Aside0.mk (blk_below BK17.out hb); (try clear c17_0 z17_0 c17_1 z17_1 c17_2 z17_2 c17_3 z17_3 c17_4 z17_4); clear BK17; have BK17 := n_; clear n_; have n_ := Aside0.mk (blk_below BK18.out hb); (try clear c18_0); clear BK18; have BK18 := n_; clear n_; have c16_0 : w_.cell? ⟨g16, 0, none⟩ = some (.int .i64 5) := (blk_cell BK16.out 0).trans rfl; have z16_0 := blk_frozen BK16.out 0; have c16_1 : w_.cell? ⟨g16, 1, none⟩ = some (.int .i64 0) := (blk_cell BK16.out 1).trans rfl; have z16_1 := blk_frozen BK16.out 1; have c16_2 : w_.cell? ⟨g16, 2, none⟩ = some (.bool true) := (blk_cell BK16.out 2).trans rfl; have z16_2 := blk_frozen BK16.out 2; have c16_3 : w_.cell? ⟨g16, 3, none⟩ = some (.int .i64 pr) := (blk_cell BK16.out 3).trans rfl; have z16_3 := blk_frozen BK16.out 3; have c16_4 : w_.cell? ⟨g16, 4, none⟩ = some (.int .i64 ra) := (blk_cell BK16.out 4).trans rfl; have z16_4 := blk_frozen BK16.out 4; have c16_5 : w_.cell? ⟨g16, 5, none⟩ = some (.int .i64 ca) := (blk_cell BK16.out 5).trans rfl; have z16_5 := blk_frozen BK16.out 5; have c17_0 : w_.cell? ⟨g17, 0, none⟩ = some (.int .i64 1) := (blk_cell BK17.out 0).trans rfl; have z17_0 := blk_frozen BK17.out 0; have c17_1 : w_.cell? ⟨g17, 1, none⟩ = some (.int .i64 4) := (blk_cell BK17.out 1).trans rfl; have z17_1 := blk_frozen BK17.out 1; have c17_2 : w_.cell? ⟨g17, 2, none⟩ = some (.int .i64 2) := (blk_cell BK17.out 2).trans rfl; have z17_2 := blk_frozen BK17.out 2; have c17_3 : w_.cell? ⟨g17, 3, none⟩ = some (.int .i64 3) := (blk_cell BK17.out 3).trans rfl; have z17_3 := blk_frozen BK17.out 3; have c17_4 : w_.cell? ⟨g17, 4, none⟩ = some (.int .i64 0) := (blk_cell BK17.out 4).trans rfl; have z17_4 := blk_frozen BK17.out 4; have BK20 := Aside0.mk hbox; clear hb hbox hg_; have c20_0 : w_.cell? ⟨g20, 0, none⟩ = some (.int .i64 0) := (blk_cell BK20.out 0).trans rfl; have z20_0 := blk_frozen BK20.out 0; have c20_1 : w_.cell? ⟨g20, 1, none⟩ = some (.int .i64 0) := (blk_cell BK20.out 1).trans rfl; have z20_1 := blk_frozen BK20.out 1; have c20_2 : w_.cell? ⟨g20, 2, none⟩ = some (.int .i64 0) := (blk_cell BK20.out 2).trans rfl; have z20_2 := blk_frozen BK20.out 2))
  have n0_ := Aside0.mk (((HB.out.setCell (p := ⟨g20, 0, none⟩) HG20.out (.int .i64 uw)).setCell (p := ⟨g20, 1, none⟩) HG20.out (.int .i64 ub)).setCell (p := ⟨g20, 2, none⟩) HG20.out (.int .i64 uv))
  have m20_ := Aside0.mk (blk_put (blk_put (blk_put BK20.out 0 (.int .i64 uw) rfl) 1 (.int .i64 ub) rfl) 2 (.int .i64 uv) rfl)
  have m16_ := Aside0.mk ((Below.heap_setCell _ ⟨g20, 2, none⟩ (.int .i64 uv) g16 (HN16_20.out)).trans ((Below.heap_setCell _ ⟨g20, 1, none⟩ (.int .i64 ub) g16 (HN16_20.out)).trans ((Below.heap_setCell _ ⟨g20, 0, none⟩ (.int .i64 uw) g16 (HN16_20.out)).trans BK16.out)))
  have m17_ := Aside0.mk ((Below.heap_setCell _ ⟨g20, 2, none⟩ (.int .i64 uv) g17 (HN17_20.out)).trans ((Below.heap_setCell _ ⟨g20, 1, none⟩ (.int .i64 ub) g17 (HN17_20.out)).trans ((Below.heap_setCell _ ⟨g20, 0, none⟩ (.int .i64 uw) g17 (HN17_20.out)).trans BK17.out)))
  have m18_ := Aside0.mk ((Below.heap_setCell _ ⟨g20, 2, none⟩ (.int .i64 uv) g18 (HN18_20.out)).trans ((Below.heap_setCell _ ⟨g20, 1, none⟩ (.int .i64 ub) g18 (HN18_20.out)).trans ((Below.heap_setCell _ ⟨g20, 0, none⟩ (.int .i64 uw) g18 (HN18_20.out)).trans BK18.out)))
  clear HB BK16 BK17 BK18 BK20 c16_0 z16_0 c16_1 z16_1 c16_2 z16_2 c16_3 z16_3 c16_4 z16_4 c16_5 z16_5 c17_0 z17_0 c17_1 z17_1 c17_2 z17_2 c17_3 z17_3 c17_4 z17_4 c20_0 z20_0 c20_1 z20_1 c20_2 z20_2
  generalize (((w_.setCell ⟨g20, 0, none⟩ (.int .i64 uw)).setCell ⟨g20, 1, none⟩ (.int .i64 ub)).setCell ⟨g20, 2, none⟩ (.int .i64 uv)) = v4 at n0_ m16_ m17_ m18_ m20_ ⊢
  have HB := n0_
  have BK16 : Aside0 (v4.heap[g16]? = some (.cells #[.int .i64 5, .int .i64 0, .bool true, .int .i64 pr, .int .i64 ra, .int .i64 ca] 25 (0, 0))) := ⟨m16_.out.trans rfl⟩
  have BK17 : Aside0 (v4.heap[g17]? = some (.cells #[.int .i64 1, .int .i64 4, .int .i64 2, .int .i64 3, .int .i64 0] 23 (0, 0))) := ⟨m17_.out.trans rfl⟩
  have BK18 : Aside0 (v4.heap[g18]? = some (.cells #[.int .i64 sw, .int .i64 sb, .int .i64 sv] 28 (0, 0))) := ⟨m18_.out.trans rfl⟩
  have BK20 : Aside0 (v4.heap[g20]? = some (.cells #[.int .i64 uw, .int .i64 ub, .int .i64 uv] 28 (0, 0))) := ⟨m20_.out.trans rfl⟩
  clear n0_ m16_ m17_ m18_ m20_
  have c16_0 : v4.cell? ⟨g16, 0, none⟩ = some (.int .i64 5) := (blk_cell BK16.out 0).trans rfl
  have z16_0 := blk_frozen BK16.out 0
  have c16_1 : v4.cell? ⟨g16, 1, none⟩ = some (.int .i64 0) := (blk_cell BK16.out 1).trans rfl
  have z16_1 := blk_frozen BK16.out 1
  have c16_2 : v4.cell? ⟨g16, 2, none⟩ = some (.bool true) := (blk_cell BK16.out 2).trans rfl
  have z16_2 := blk_frozen BK16.out 2
  have c16_3 : v4.cell? ⟨g16, 3, none⟩ = some (.int .i64 pr) := (blk_cell BK16.out 3).trans rfl
  have z16_3 := blk_frozen BK16.out 3
  have c16_4 : v4.cell? ⟨g16, 4, none⟩ = some (.int .i64 ra) := (blk_cell BK16.out 4).trans rfl
  have z16_4 := blk_frozen BK16.out 4
  have c16_5 : v4.cell? ⟨g16, 5, none⟩ = some (.int .i64 ca) := (blk_cell BK16.out 5).trans rfl
  have z16_5 := blk_frozen BK16.out 5
  go_upto_region 11 with (first
    | ((with_reducible refine gate_dst (N := 22) rfl ?_); refine box_event ?hg (N := 22) ?hd (cs := #[.int .i64 0, .int .i64 0, .bool false, .int .i64 0, .int .i64 0, .int .i64 0]) (t := 25) ?hr ?_; (case hd => rfl); (case hg => rfl); (case hr => first | (go_simp; done) | (go_simp; rfl)); intro g22 hg_ w_ hbox hb; have HN16_22 := Aside0.mk (show g16 ≠ g22 from by have := blk_lt BK16.out; omega); have HN17_22 := Aside0.mk (show g17 ≠ g22 from by have := blk_lt BK17.out; omega); have HN18_22 := Aside0.mk (show g18 ≠ g22 from by have := blk_lt BK18.out; omega); have HN20_22 := Aside0.mk (show g20 ≠ g22 from by have := blk_lt BK20.out; omega); have HG22 := Aside0.mk (show w.heap.size ≤ g22 from Nat.le_trans (below_size HB.out) (Nat.le_of_eq hg_.symm)); have n_ := Aside0.mk (below_step HB.out hb); clear HB; have HB := n_; clear n_; have n_ := Aside0.mk (blk_below BK16.out hb); (try clear c16_0 z16_0 c16_1 z16_1 c16_2 z16_2 c16_3 z16_3 c16_4 z16_4 c16_5 z16_5); clear BK16; have BK16 := n_; clear n_; have n_ := Aside0.mk (blk_below BK17.out hb); (try clear c17_0); clear BK17; have BK17 := n_; clear n_; have n_ := Aside0.mk (blk_below BK18.out hb); (try clear c18_0); clear BK18; have BK18 := n_; clear n_; have n_ := Aside0.mk (blk_below BK20.out hb); (try clear c20_0); clear BK20; have BK20 := n_; clear n_; have c16_0 : w_.cell? ⟨g16, 0, none⟩ = some (.int .i64 5) := (blk_cell BK16.out 0).trans rfl; have z16_0 := blk_frozen BK16.out 0; have c16_1 : w_.cell? ⟨g16, 1, none⟩ = some (.int .i64 0) := (blk_cell BK16.out 1).trans rfl; have z16_1 := blk_frozen BK16.out 1; have c16_2 : w_.cell? ⟨g16, 2, none⟩ = some (.bool true) := (blk_cell BK16.out 2).trans rfl; have z16_2 := blk_frozen BK16.out 2; have c16_3 : w_.cell? ⟨g16, 3, none⟩ = some (.int .i64 pr) := (blk_cell BK16.out 3).trans rfl; have z16_3 := blk_frozen BK16.out 3; have c16_4 : w_.cell? ⟨g16, 4, none⟩ = some (.int .i64 ra) := (blk_cell BK16.out 4).trans rfl; have z16_4 := blk_frozen BK16.out 4; have c16_5 : w_.cell? ⟨g16, 5, none⟩ = some (.int .i64 ca) := (blk_cell BK16.out 5).trans rfl; have z16_5 := blk_frozen BK16.out 5; have BK22 := Aside0.mk hbox; clear hb hbox hg_; have c22_0 : w_.cell? ⟨g22, 0, none⟩ = some (.int .i64 0) := (blk_cell BK22.out 0).trans rfl; have z22_0 := blk_frozen BK22.out 0; have c22_1 : w_.cell? ⟨g22, 1, none⟩ = some (.int .i64 0) := (blk_cell BK22.out 1).trans rfl; have z22_1 := blk_frozen BK22.out 1; have c22_2 : w_.cell? ⟨g22, 2, none⟩ = some (.bool false) := (blk_cell BK22.out 2).trans rfl; have z22_2 := blk_frozen BK22.out 2; have c22_3 : w_.cell? ⟨g22, 3, none⟩ = some (.int .i64 0) := (blk_cell BK22.out 3).trans rfl; have z22_3 := blk_frozen BK22.out 3; have c22_4 : w_.cell? ⟨g22, 4, none⟩ = some (.int .i64 0) := (blk_cell BK22.out 4).trans rfl; have z22_4 := blk_frozen BK22.out 4; have c22_5 : w_.cell? ⟨g22, 5, none⟩ = some (.int .i64 0) := (blk_cell BK22.out 5).trans rfl; have z22_5 := blk_frozen BK22.out 5))
  have n0_ := Aside0.mk ((((((HB.out.setCell (p := ⟨g22, 0, none⟩) HG22.out (.int .i64 5)).setCell (p := ⟨g22, 1, none⟩) HG22.out (.int .i64 0)).setCell (p := ⟨g22, 2, none⟩) HG22.out (.bool true)).setCell (p := ⟨g22, 3, none⟩) HG22.out (.int .i64 pr)).setCell (p := ⟨g22, 4, none⟩) HG22.out (.int .i64 ra)).setCell (p := ⟨g22, 5, none⟩) HG22.out (.int .i64 ca))
  have m22_ := Aside0.mk (blk_put (blk_put (blk_put (blk_put (blk_put (blk_put BK22.out 0 (.int .i64 5) rfl) 1 (.int .i64 0) rfl) 2 (.bool true) rfl) 3 (.int .i64 pr) rfl) 4 (.int .i64 ra) rfl) 5 (.int .i64 ca) rfl)
  have m16_ := Aside0.mk ((Below.heap_setCell _ ⟨g22, 5, none⟩ (.int .i64 ca) g16 (HN16_22.out)).trans ((Below.heap_setCell _ ⟨g22, 4, none⟩ (.int .i64 ra) g16 (HN16_22.out)).trans ((Below.heap_setCell _ ⟨g22, 3, none⟩ (.int .i64 pr) g16 (HN16_22.out)).trans ((Below.heap_setCell _ ⟨g22, 2, none⟩ (.bool true) g16 (HN16_22.out)).trans ((Below.heap_setCell _ ⟨g22, 1, none⟩ (.int .i64 0) g16 (HN16_22.out)).trans ((Below.heap_setCell _ ⟨g22, 0, none⟩ (.int .i64 5) g16 (HN16_22.out)).trans BK16.out))))))
  have m17_ := Aside0.mk ((Below.heap_setCell _ ⟨g22, 5, none⟩ (.int .i64 ca) g17 (HN17_22.out)).trans ((Below.heap_setCell _ ⟨g22, 4, none⟩ (.int .i64 ra) g17 (HN17_22.out)).trans ((Below.heap_setCell _ ⟨g22, 3, none⟩ (.int .i64 pr) g17 (HN17_22.out)).trans ((Below.heap_setCell _ ⟨g22, 2, none⟩ (.bool true) g17 (HN17_22.out)).trans ((Below.heap_setCell _ ⟨g22, 1, none⟩ (.int .i64 0) g17 (HN17_22.out)).trans ((Below.heap_setCell _ ⟨g22, 0, none⟩ (.int .i64 5) g17 (HN17_22.out)).trans BK17.out))))))
  have m18_ := Aside0.mk ((Below.heap_setCell _ ⟨g22, 5, none⟩ (.int .i64 ca) g18 (HN18_22.out)).trans ((Below.heap_setCell _ ⟨g22, 4, none⟩ (.int .i64 ra) g18 (HN18_22.out)).trans ((Below.heap_setCell _ ⟨g22, 3, none⟩ (.int .i64 pr) g18 (HN18_22.out)).trans ((Below.heap_setCell _ ⟨g22, 2, none⟩ (.bool true) g18 (HN18_22.out)).trans ((Below.heap_setCell _ ⟨g22, 1, none⟩ (.int .i64 0) g18 (HN18_22.out)).trans ((Below.heap_setCell _ ⟨g22, 0, none⟩ (.int .i64 5) g18 (HN18_22.out)).trans BK18.out))))))
  have m20_ := Aside0.mk ((Below.heap_setCell _ ⟨g22, 5, none⟩ (.int .i64 ca) g20 (HN20_22.out)).trans ((Below.heap_setCell _ ⟨g22, 4, none⟩ (.int .i64 ra) g20 (HN20_22.out)).trans ((Below.heap_setCell _ ⟨g22, 3, none⟩ (.int .i64 pr) g20 (HN20_22.out)).trans ((Below.heap_setCell _ ⟨g22, 2, none⟩ (.bool true) g20 (HN20_22.out)).trans ((Below.heap_setCell _ ⟨g22, 1, none⟩ (.int .i64 0) g20 (HN20_22.out)).trans ((Below.heap_setCell _ ⟨g22, 0, none⟩ (.int .i64 5) g20 (HN20_22.out)).trans BK20.out))))))
  clear HB BK16 BK17 BK18 BK20 BK22 c16_0 z16_0 c16_1 z16_1 c16_2 z16_2 c16_3 z16_3 c16_4 z16_4 c16_5 z16_5 c22_0 z22_0 c22_1 z22_1 c22_2 z22_2 c22_3 z22_3 c22_4 z22_4 c22_5 z22_5
  generalize ((((((w_.setCell ⟨g22, 0, none⟩ (.int .i64 5)).setCell ⟨g22, 1, none⟩ (.int .i64 0)).setCell ⟨g22, 2, none⟩ (.bool true)).setCell ⟨g22, 3, none⟩ (.int .i64 pr)).setCell ⟨g22, 4, none⟩ (.int .i64 ra)).setCell ⟨g22, 5, none⟩ (.int .i64 ca)) = v5 at n0_ m16_ m17_ m18_ m20_ m22_ ⊢
  have HB := n0_
  have BK16 : Aside0 (v5.heap[g16]? = some (.cells #[.int .i64 5, .int .i64 0, .bool true, .int .i64 pr, .int .i64 ra, .int .i64 ca] 25 (0, 0))) := ⟨m16_.out.trans rfl⟩
  have BK17 : Aside0 (v5.heap[g17]? = some (.cells #[.int .i64 1, .int .i64 4, .int .i64 2, .int .i64 3, .int .i64 0] 23 (0, 0))) := ⟨m17_.out.trans rfl⟩
  have BK18 : Aside0 (v5.heap[g18]? = some (.cells #[.int .i64 sw, .int .i64 sb, .int .i64 sv] 28 (0, 0))) := ⟨m18_.out.trans rfl⟩
  have BK20 : Aside0 (v5.heap[g20]? = some (.cells #[.int .i64 uw, .int .i64 ub, .int .i64 uv] 28 (0, 0))) := ⟨m20_.out.trans rfl⟩
  have BK22 : Aside0 (v5.heap[g22]? = some (.cells #[.int .i64 5, .int .i64 0, .bool true, .int .i64 pr, .int .i64 ra, .int .i64 ca] 25 (0, 0))) := ⟨m22_.out.trans rfl⟩
  clear n0_ m16_ m17_ m18_ m20_ m22_
  have c22_0 : v5.cell? ⟨g22, 0, none⟩ = some (.int .i64 5) := (blk_cell BK22.out 0).trans rfl
  have z22_0 := blk_frozen BK22.out 0
  have c22_1 : v5.cell? ⟨g22, 1, none⟩ = some (.int .i64 0) := (blk_cell BK22.out 1).trans rfl
  have z22_1 := blk_frozen BK22.out 1
  have c22_2 : v5.cell? ⟨g22, 2, none⟩ = some (.bool true) := (blk_cell BK22.out 2).trans rfl
  have z22_2 := blk_frozen BK22.out 2
  have c22_3 : v5.cell? ⟨g22, 3, none⟩ = some (.int .i64 pr) := (blk_cell BK22.out 3).trans rfl
  have z22_3 := blk_frozen BK22.out 3
  have c22_4 : v5.cell? ⟨g22, 4, none⟩ = some (.int .i64 ra) := (blk_cell BK22.out 4).trans rfl
  have z22_4 := blk_frozen BK22.out 4
  have c22_5 : v5.cell? ⟨g22, 5, none⟩ = some (.int .i64 ca) := (blk_cell BK22.out 5).trans rfl
  have z22_5 := blk_frozen BK22.out 5
  go_upto_region 12 with (first
    | (go_at_call 14; have hN := fun W_ => pledgeworld_Number.calls a5 10001 cb W_ (by have e_ := numW_f a5 10001 (by omega); rw [← Hcb.out] at e_; exact e_); (with_reducible refine (hN _).mono ?_); clear hN; rintro e w_ ⟨rfl, hd⟩; have hb := hd.below; have n_ := Aside0.mk (below_step HB.out hb); clear HB; have HB := n_; clear n_; have n_ := Aside0.mk (blk_below BK16.out hb); (try clear c16_0); clear BK16; have BK16 := n_; clear n_; have n_ := Aside0.mk (blk_below BK17.out hb); (try clear c17_0); clear BK17; have BK17 := n_; clear n_; have n_ := Aside0.mk (blk_below BK18.out hb); (try clear c18_0); clear BK18; have BK18 := n_; clear n_; have n_ := Aside0.mk (blk_below BK20.out hb); (try clear c20_0); clear BK20; have BK20 := n_; clear n_; have n_ := Aside0.mk (blk_below BK22.out hb); (try clear c22_0 z22_0 c22_1 z22_1 c22_2 z22_2 c22_3 z22_3 c22_4 z22_4 c22_5 z22_5); clear BK22; have BK22 := n_; clear n_; have c22_0 : w_.cell? ⟨g22, 0, none⟩ = some (.int .i64 5) := (blk_cell BK22.out 0).trans rfl; have z22_0 := blk_frozen BK22.out 0; have c22_1 : w_.cell? ⟨g22, 1, none⟩ = some (.int .i64 0) := (blk_cell BK22.out 1).trans rfl; have z22_1 := blk_frozen BK22.out 1; have c22_2 : w_.cell? ⟨g22, 2, none⟩ = some (.bool true) := (blk_cell BK22.out 2).trans rfl; have z22_2 := blk_frozen BK22.out 2; have c22_3 : w_.cell? ⟨g22, 3, none⟩ = some (.int .i64 pr) := (blk_cell BK22.out 3).trans rfl; have z22_3 := blk_frozen BK22.out 3; have c22_4 : w_.cell? ⟨g22, 4, none⟩ = some (.int .i64 ra) := (blk_cell BK22.out 4).trans rfl; have z22_4 := blk_frozen BK22.out 4; have c22_5 : w_.cell? ⟨g22, 5, none⟩ = some (.int .i64 ca) := (blk_cell BK22.out 5).trans rfl; have z22_5 := blk_frozen BK22.out 5; clear hb hd))
  have n0_ := Aside0.mk (HB.out.setCell (p := ⟨g22, 5, none⟩) HG22.out (.int .i64 cb))
  have m22_ := Aside0.mk (blk_put BK22.out 5 (.int .i64 cb) rfl)
  have m16_ := Aside0.mk ((Below.heap_setCell _ ⟨g22, 5, none⟩ (.int .i64 cb) g16 (HN16_22.out)).trans BK16.out)
  have m17_ := Aside0.mk ((Below.heap_setCell _ ⟨g22, 5, none⟩ (.int .i64 cb) g17 (HN17_22.out)).trans BK17.out)
  have m18_ := Aside0.mk ((Below.heap_setCell _ ⟨g22, 5, none⟩ (.int .i64 cb) g18 (HN18_22.out)).trans BK18.out)
  have m20_ := Aside0.mk ((Below.heap_setCell _ ⟨g22, 5, none⟩ (.int .i64 cb) g20 (HN20_22.out)).trans BK20.out)
  clear HB BK16 BK17 BK18 BK20 BK22 c22_0 z22_0 c22_1 z22_1 c22_2 z22_2 c22_3 z22_3 c22_4 z22_4 c22_5 z22_5
  generalize (w_.setCell ⟨g22, 5, none⟩ (.int .i64 cb)) = v6 at n0_ m16_ m17_ m18_ m20_ m22_ ⊢
  have HB := n0_
  have BK16 : Aside0 (v6.heap[g16]? = some (.cells #[.int .i64 5, .int .i64 0, .bool true, .int .i64 pr, .int .i64 ra, .int .i64 ca] 25 (0, 0))) := ⟨m16_.out.trans rfl⟩
  have BK17 : Aside0 (v6.heap[g17]? = some (.cells #[.int .i64 1, .int .i64 4, .int .i64 2, .int .i64 3, .int .i64 0] 23 (0, 0))) := ⟨m17_.out.trans rfl⟩
  have BK18 : Aside0 (v6.heap[g18]? = some (.cells #[.int .i64 sw, .int .i64 sb, .int .i64 sv] 28 (0, 0))) := ⟨m18_.out.trans rfl⟩
  have BK20 : Aside0 (v6.heap[g20]? = some (.cells #[.int .i64 uw, .int .i64 ub, .int .i64 uv] 28 (0, 0))) := ⟨m20_.out.trans rfl⟩
  have BK22 : Aside0 (v6.heap[g22]? = some (.cells #[.int .i64 5, .int .i64 0, .bool true, .int .i64 pr, .int .i64 ra, .int .i64 cb] 25 (0, 0))) := ⟨m22_.out.trans rfl⟩
  clear n0_ m16_ m17_ m18_ m20_ m22_
  have c17_0 : v6.cell? ⟨g17, 0, none⟩ = some (.int .i64 1) := (blk_cell BK17.out 0).trans rfl
  have z17_0 := blk_frozen BK17.out 0
  have c17_1 : v6.cell? ⟨g17, 1, none⟩ = some (.int .i64 4) := (blk_cell BK17.out 1).trans rfl
  have z17_1 := blk_frozen BK17.out 1
  have c17_2 : v6.cell? ⟨g17, 2, none⟩ = some (.int .i64 2) := (blk_cell BK17.out 2).trans rfl
  have z17_2 := blk_frozen BK17.out 2
  have c17_3 : v6.cell? ⟨g17, 3, none⟩ = some (.int .i64 3) := (blk_cell BK17.out 3).trans rfl
  have z17_3 := blk_frozen BK17.out 3
  have c17_4 : v6.cell? ⟨g17, 4, none⟩ = some (.int .i64 0) := (blk_cell BK17.out 4).trans rfl
  have z17_4 := blk_frozen BK17.out 4
  have c22_0 : v6.cell? ⟨g22, 0, none⟩ = some (.int .i64 5) := (blk_cell BK22.out 0).trans rfl
  have z22_0 := blk_frozen BK22.out 0
  have c22_1 : v6.cell? ⟨g22, 1, none⟩ = some (.int .i64 0) := (blk_cell BK22.out 1).trans rfl
  have z22_1 := blk_frozen BK22.out 1
  have c22_2 : v6.cell? ⟨g22, 2, none⟩ = some (.bool true) := (blk_cell BK22.out 2).trans rfl
  have z22_2 := blk_frozen BK22.out 2
  have c22_3 : v6.cell? ⟨g22, 3, none⟩ = some (.int .i64 pr) := (blk_cell BK22.out 3).trans rfl
  have z22_3 := blk_frozen BK22.out 3
  have c22_4 : v6.cell? ⟨g22, 4, none⟩ = some (.int .i64 ra) := (blk_cell BK22.out 4).trans rfl
  have z22_4 := blk_frozen BK22.out 4
  have c22_5 : v6.cell? ⟨g22, 5, none⟩ = some (.int .i64 cb) := (blk_cell BK22.out 5).trans rfl
  have z22_5 := blk_frozen BK22.out 5
  go_upto_region 13 with (first
    | (go_at_call 8; have hN := value_Of.calls vF 1 4 2 3 0 q 5 0 true pr ra cb xw xb xv none _ (HG.out.below HB.out) HX.out; simp only [errW_none] at hN; (with_reducible refine hN.mono ?_); clear hN; rintro e_ w_ ⟨rfl, hb⟩; have n_ := Aside0.mk (below_step HB.out hb); clear HB; have HB := n_; clear n_; have n_ := Aside0.mk (blk_below BK16.out hb); (try clear c16_0); clear BK16; have BK16 := n_; clear n_; have n_ := Aside0.mk (blk_below BK17.out hb); (try clear c17_0 z17_0 c17_1 z17_1 c17_2 z17_2 c17_3 z17_3 c17_4 z17_4); clear BK17; have BK17 := n_; clear n_; have n_ := Aside0.mk (blk_below BK18.out hb); (try clear c18_0); clear BK18; have BK18 := n_; clear n_; have n_ := Aside0.mk (blk_below BK20.out hb); (try clear c20_0); clear BK20; have BK20 := n_; clear n_; have n_ := Aside0.mk (blk_below BK22.out hb); (try clear c22_0 z22_0 c22_1 z22_1 c22_2 z22_2 c22_3 z22_3 c22_4 z22_4 c22_5 z22_5); clear BK22; have BK22 := n_; clear n_; have c17_0 : w_.cell? ⟨g17, 0, none⟩ = some (.int .i64 1) := (blk_cell BK17.out 0).trans rfl; have z17_0 := blk_frozen BK17.out 0; have c17_1 : w_.cell? ⟨g17, 1, none⟩ = some (.int .i64 4) := (blk_cell BK17.out 1).trans rfl; have z17_1 := blk_frozen BK17.out 1; have c17_2 : w_.cell? ⟨g17, 2, none⟩ = some (.int .i64 2) := (blk_cell BK17.out 2).trans rfl; have z17_2 := blk_frozen BK17.out 2; have c17_3 : w_.cell? ⟨g17, 3, none⟩ = some (.int .i64 3) := (blk_cell BK17.out 3).trans rfl; have z17_3 := blk_frozen BK17.out 3; have c17_4 : w_.cell? ⟨g17, 4, none⟩ = some (.int .i64 0) := (blk_cell BK17.out 4).trans rfl; have z17_4 := blk_frozen BK17.out 4; have c22_0 : w_.cell? ⟨g22, 0, none⟩ = some (.int .i64 5) := (blk_cell BK22.out 0).trans rfl; have z22_0 := blk_frozen BK22.out 0; have c22_1 : w_.cell? ⟨g22, 1, none⟩ = some (.int .i64 0) := (blk_cell BK22.out 1).trans rfl; have z22_1 := blk_frozen BK22.out 1; have c22_2 : w_.cell? ⟨g22, 2, none⟩ = some (.bool true) := (blk_cell BK22.out 2).trans rfl; have z22_2 := blk_frozen BK22.out 2; have c22_3 : w_.cell? ⟨g22, 3, none⟩ = some (.int .i64 pr) := (blk_cell BK22.out 3).trans rfl; have z22_3 := blk_frozen BK22.out 3; have c22_4 : w_.cell? ⟨g22, 4, none⟩ = some (.int .i64 ra) := (blk_cell BK22.out 4).trans rfl; have z22_4 := blk_frozen BK22.out 4; have c22_5 : w_.cell? ⟨g22, 5, none⟩ = some (.int .i64 cb) := (blk_cell BK22.out 5).trans rfl; have z22_5 := blk_frozen BK22.out 5; clear hb)
    | ((with_reducible refine gate_dst (N := 23) rfl ?_); refine box_event ?hg (N := 23) ?hd (cs := #[.int .i64 0, .int .i64 0, .int .i64 0]) (t := 28) ?hr ?_; (case hd => rfl); (case hg => rfl); (case hr => first | (go_simp; done) | (go_simp; rfl)); intro g23 hg_ w_ hbox hb; have HN16_23 := Aside0.mk (show g16 ≠ g23 from by have := blk_lt BK16.out; omega); have HN17_23 := Aside0.mk (show g17 ≠ g23 from by have := blk_lt BK17.out; omega); have HN18_23 := Aside0.mk (show g18 ≠ g23 from by have := blk_lt BK18.out; omega); have HN20_23 := Aside0.mk (show g20 ≠ g23 from by have := blk_lt BK20.out; omega); have HN22_23 := Aside0.mk (show g22 ≠ g23 from by have := blk_lt BK22.out; omega); have HG23 := Aside0.mk (show w.heap.size ≤ g23 from Nat.le_trans (below_size HB.out) (Nat.le_of_eq hg_.symm)); have n_ := Aside0.mk (below_step HB.out hb); clear HB; have HB := n_; clear n_; have n_ := Aside0.mk (blk_below BK16.out hb); (try clear c16_0); clear BK16; have BK16 := n_; clear n_; have n_ := Aside0.mk (blk_below BK17.out hb); (try clear c17_0 z17_0 c17_1 z17_1 c17_2 z17_2 c17_3 z17_3 c17_4 z17_4); clear BK17; have BK17 := n_; clear n_; have n_ := Aside0.mk (blk_below BK18.out hb); (try clear c18_0); clear BK18; have BK18 := n_; clear n_; have n_ := Aside0.mk (blk_below BK20.out hb); (try clear c20_0); clear BK20; have BK20 := n_; clear n_; have n_ := Aside0.mk (blk_below BK22.out hb); (try clear c22_0 z22_0 c22_1 z22_1 c22_2 z22_2 c22_3 z22_3 c22_4 z22_4 c22_5 z22_5); clear BK22; have BK22 := n_; clear n_; have c17_0 : w_.cell? ⟨g17, 0, none⟩ = some (.int .i64 1) := (blk_cell BK17.out 0).trans rfl; have z17_0 := blk_frozen BK17.out 0; have c17_1 : w_.cell? ⟨g17, 1, none⟩ = some (.int .i64 4) := (blk_cell BK17.out 1).trans rfl; have z17_1 := blk_frozen BK17.out 1; have c17_2 : w_.cell? ⟨g17, 2, none⟩ = some (.int .i64 2) := (blk_cell BK17.out 2).trans rfl; have z17_2 := blk_frozen BK17.out 2; have c17_3 : w_.cell? ⟨g17, 3, none⟩ = some (.int .i64 3) := (blk_cell BK17.out 3).trans rfl; have z17_3 := blk_frozen BK17.out 3; have c17_4 : w_.cell? ⟨g17, 4, none⟩ = some (.int .i64 0) := (blk_cell BK17.out 4).trans rfl; have z17_4 := blk_frozen BK17.out 4; have c22_0 : w_.cell? ⟨g22, 0, none⟩ = some (.int .i64 5) := (blk_cell BK22.out 0).trans rfl; have z22_0 := blk_frozen BK22.out 0; have c22_1 : w_.cell? ⟨g22, 1, none⟩ = some (.int .i64 0) := (blk_cell BK22.out 1).trans rfl; have z22_1 := blk_frozen BK22.out 1; have c22_2 : w_.cell? ⟨g22, 2, none⟩ = some (.bool true) := (blk_cell BK22.out 2).trans rfl; have z22_2 := blk_frozen BK22.out 2; have c22_3 : w_.cell? ⟨g22, 3, none⟩ = some (.int .i64 pr) := (blk_cell BK22.out 3).trans rfl; have z22_3 := blk_frozen BK22.out 3; have c22_4 : w_.cell? ⟨g22, 4, none⟩ = some (.int .i64 ra) := (blk_cell BK22.out 4).trans rfl; have z22_4 := blk_frozen BK22.out 4; have c22_5 : w_.cell? ⟨g22, 5, none⟩ = some (.int .i64 cb) := (blk_cell BK22.out 5).trans rfl; have z22_5 := blk_frozen BK22.out 5; have BK23 := Aside0.mk hbox; clear hb hbox hg_; have c23_0 : w_.cell? ⟨g23, 0, none⟩ = some (.int .i64 0) := (blk_cell BK23.out 0).trans rfl; have z23_0 := blk_frozen BK23.out 0; have c23_1 : w_.cell? ⟨g23, 1, none⟩ = some (.int .i64 0) := (blk_cell BK23.out 1).trans rfl; have z23_1 := blk_frozen BK23.out 1; have c23_2 : w_.cell? ⟨g23, 2, none⟩ = some (.int .i64 0) := (blk_cell BK23.out 2).trans rfl; have z23_2 := blk_frozen BK23.out 2))
  have n0_ := Aside0.mk (((HB.out.setCell (p := ⟨g23, 0, none⟩) HG23.out (.int .i64 xw)).setCell (p := ⟨g23, 1, none⟩) HG23.out (.int .i64 xb)).setCell (p := ⟨g23, 2, none⟩) HG23.out (.int .i64 xv))
  have m23_ := Aside0.mk (blk_put (blk_put (blk_put BK23.out 0 (.int .i64 xw) rfl) 1 (.int .i64 xb) rfl) 2 (.int .i64 xv) rfl)
  have m16_ := Aside0.mk ((Below.heap_setCell _ ⟨g23, 2, none⟩ (.int .i64 xv) g16 (HN16_23.out)).trans ((Below.heap_setCell _ ⟨g23, 1, none⟩ (.int .i64 xb) g16 (HN16_23.out)).trans ((Below.heap_setCell _ ⟨g23, 0, none⟩ (.int .i64 xw) g16 (HN16_23.out)).trans BK16.out)))
  have m17_ := Aside0.mk ((Below.heap_setCell _ ⟨g23, 2, none⟩ (.int .i64 xv) g17 (HN17_23.out)).trans ((Below.heap_setCell _ ⟨g23, 1, none⟩ (.int .i64 xb) g17 (HN17_23.out)).trans ((Below.heap_setCell _ ⟨g23, 0, none⟩ (.int .i64 xw) g17 (HN17_23.out)).trans BK17.out)))
  have m18_ := Aside0.mk ((Below.heap_setCell _ ⟨g23, 2, none⟩ (.int .i64 xv) g18 (HN18_23.out)).trans ((Below.heap_setCell _ ⟨g23, 1, none⟩ (.int .i64 xb) g18 (HN18_23.out)).trans ((Below.heap_setCell _ ⟨g23, 0, none⟩ (.int .i64 xw) g18 (HN18_23.out)).trans BK18.out)))
  have m20_ := Aside0.mk ((Below.heap_setCell _ ⟨g23, 2, none⟩ (.int .i64 xv) g20 (HN20_23.out)).trans ((Below.heap_setCell _ ⟨g23, 1, none⟩ (.int .i64 xb) g20 (HN20_23.out)).trans ((Below.heap_setCell _ ⟨g23, 0, none⟩ (.int .i64 xw) g20 (HN20_23.out)).trans BK20.out)))
  have m22_ := Aside0.mk ((Below.heap_setCell _ ⟨g23, 2, none⟩ (.int .i64 xv) g22 (HN22_23.out)).trans ((Below.heap_setCell _ ⟨g23, 1, none⟩ (.int .i64 xb) g22 (HN22_23.out)).trans ((Below.heap_setCell _ ⟨g23, 0, none⟩ (.int .i64 xw) g22 (HN22_23.out)).trans BK22.out)))
  clear HB BK16 BK17 BK18 BK20 BK22 BK23 c17_0 z17_0 c17_1 z17_1 c17_2 z17_2 c17_3 z17_3 c17_4 z17_4 c22_0 z22_0 c22_1 z22_1 c22_2 z22_2 c22_3 z22_3 c22_4 z22_4 c22_5 z22_5 c23_0 z23_0 c23_1 z23_1 c23_2 z23_2
  generalize (((w_.setCell ⟨g23, 0, none⟩ (.int .i64 xw)).setCell ⟨g23, 1, none⟩ (.int .i64 xb)).setCell ⟨g23, 2, none⟩ (.int .i64 xv)) = v7 at n0_ m16_ m17_ m18_ m20_ m22_ m23_ ⊢
  have HB := n0_
  have BK16 : Aside0 (v7.heap[g16]? = some (.cells #[.int .i64 5, .int .i64 0, .bool true, .int .i64 pr, .int .i64 ra, .int .i64 ca] 25 (0, 0))) := ⟨m16_.out.trans rfl⟩
  have BK17 : Aside0 (v7.heap[g17]? = some (.cells #[.int .i64 1, .int .i64 4, .int .i64 2, .int .i64 3, .int .i64 0] 23 (0, 0))) := ⟨m17_.out.trans rfl⟩
  have BK18 : Aside0 (v7.heap[g18]? = some (.cells #[.int .i64 sw, .int .i64 sb, .int .i64 sv] 28 (0, 0))) := ⟨m18_.out.trans rfl⟩
  have BK20 : Aside0 (v7.heap[g20]? = some (.cells #[.int .i64 uw, .int .i64 ub, .int .i64 uv] 28 (0, 0))) := ⟨m20_.out.trans rfl⟩
  have BK22 : Aside0 (v7.heap[g22]? = some (.cells #[.int .i64 5, .int .i64 0, .bool true, .int .i64 pr, .int .i64 ra, .int .i64 cb] 25 (0, 0))) := ⟨m22_.out.trans rfl⟩
  have BK23 : Aside0 (v7.heap[g23]? = some (.cells #[.int .i64 xw, .int .i64 xb, .int .i64 xv] 28 (0, 0))) := ⟨m23_.out.trans rfl⟩
  clear n0_ m16_ m17_ m18_ m20_ m22_ m23_
  have k4 := K4.out
  have k5 := K5.out
  have k6 := K6.out
  have k7 := K7.out
  have da1 : decide (sv > uv) = false := decide_eq_false (by omega)
  have da2 : (sv > uv) = False := eq_false (by omega)
  have da3 : decide (uv < sv) = false := decide_eq_false (by omega)
  have da4 : (uv < sv) = False := eq_false (by omega)
  have db1 : decide (sb > ub) = false := decide_eq_false (by omega)
  have db2 : (sb > ub) = False := eq_false (by omega)
  have db3 : decide (ub < sb) = false := decide_eq_false (by omega)
  have db4 : (ub < sb) = False := eq_false (by omega)
  have dc1 : decide (sv > sb) = false := decide_eq_false (by omega)
  have dc2 : (sv > sb) = False := eq_false (by omega)
  have dc3 : decide (sb < sv) = false := decide_eq_false (by omega)
  have dc4 : (sb < sv) = False := eq_false (by omega)
  by_cases hcc : ca ≤ cb
  · have dd1 : decide (ca ≤ cb) = true := decide_eq_true (by omega)
    have dd2 : (ca ≤ cb) = True := eq_true (by omega)
    have k8 := k7 hcc
    have de1 : decide (sv < xv) = false := decide_eq_false (by omega)
    have de2 : (sv < xv) = False := eq_false (by omega)
    clear k8
    clear k4 k5 k6 k7 hcc
    have c16_0 : v7.cell? ⟨g16, 0, none⟩ = some (.int .i64 5) := (blk_cell BK16.out 0).trans rfl
    have z16_0 := blk_frozen BK16.out 0
    have c16_1 : v7.cell? ⟨g16, 1, none⟩ = some (.int .i64 0) := (blk_cell BK16.out 1).trans rfl
    have z16_1 := blk_frozen BK16.out 1
    have c16_2 : v7.cell? ⟨g16, 2, none⟩ = some (.bool true) := (blk_cell BK16.out 2).trans rfl
    have z16_2 := blk_frozen BK16.out 2
    have c16_3 : v7.cell? ⟨g16, 3, none⟩ = some (.int .i64 pr) := (blk_cell BK16.out 3).trans rfl
    have z16_3 := blk_frozen BK16.out 3
    have c16_4 : v7.cell? ⟨g16, 4, none⟩ = some (.int .i64 ra) := (blk_cell BK16.out 4).trans rfl
    have z16_4 := blk_frozen BK16.out 4
    have c16_5 : v7.cell? ⟨g16, 5, none⟩ = some (.int .i64 ca) := (blk_cell BK16.out 5).trans rfl
    have z16_5 := blk_frozen BK16.out 5
    have c18_0 : v7.cell? ⟨g18, 0, none⟩ = some (.int .i64 sw) := (blk_cell BK18.out 0).trans rfl
    have z18_0 := blk_frozen BK18.out 0
    have c18_1 : v7.cell? ⟨g18, 1, none⟩ = some (.int .i64 sb) := (blk_cell BK18.out 1).trans rfl
    have z18_1 := blk_frozen BK18.out 1
    have c18_2 : v7.cell? ⟨g18, 2, none⟩ = some (.int .i64 sv) := (blk_cell BK18.out 2).trans rfl
    have z18_2 := blk_frozen BK18.out 2
    have c20_0 : v7.cell? ⟨g20, 0, none⟩ = some (.int .i64 uw) := (blk_cell BK20.out 0).trans rfl
    have z20_0 := blk_frozen BK20.out 0
    have c20_1 : v7.cell? ⟨g20, 1, none⟩ = some (.int .i64 ub) := (blk_cell BK20.out 1).trans rfl
    have z20_1 := blk_frozen BK20.out 1
    have c20_2 : v7.cell? ⟨g20, 2, none⟩ = some (.int .i64 uv) := (blk_cell BK20.out 2).trans rfl
    have z20_2 := blk_frozen BK20.out 2
    have c22_0 : v7.cell? ⟨g22, 0, none⟩ = some (.int .i64 5) := (blk_cell BK22.out 0).trans rfl
    have z22_0 := blk_frozen BK22.out 0
    have c22_1 : v7.cell? ⟨g22, 1, none⟩ = some (.int .i64 0) := (blk_cell BK22.out 1).trans rfl
    have z22_1 := blk_frozen BK22.out 1
    have c22_2 : v7.cell? ⟨g22, 2, none⟩ = some (.bool true) := (blk_cell BK22.out 2).trans rfl
    have z22_2 := blk_frozen BK22.out 2
    have c22_3 : v7.cell? ⟨g22, 3, none⟩ = some (.int .i64 pr) := (blk_cell BK22.out 3).trans rfl
    have z22_3 := blk_frozen BK22.out 3
    have c22_4 : v7.cell? ⟨g22, 4, none⟩ = some (.int .i64 ra) := (blk_cell BK22.out 4).trans rfl
    have z22_4 := blk_frozen BK22.out 4
    have c22_5 : v7.cell? ⟨g22, 5, none⟩ = some (.int .i64 cb) := (blk_cell BK22.out 5).trans rfl
    have z22_5 := blk_frozen BK22.out 5
    have c23_0 : v7.cell? ⟨g23, 0, none⟩ = some (.int .i64 xw) := (blk_cell BK23.out 0).trans rfl
    have z23_0 := blk_frozen BK23.out 0
    have c23_1 : v7.cell? ⟨g23, 1, none⟩ = some (.int .i64 xb) := (blk_cell BK23.out 1).trans rfl
    have z23_1 := blk_frozen BK23.out 1
    have c23_2 : v7.cell? ⟨g23, 2, none⟩ = some (.int .i64 xv) := (blk_cell BK23.out 2).trans rfl
    have z23_2 := blk_frozen BK23.out 2
    go_upto_region 16 with (first
      | ((with_reducible refine gate_dst (N := 25) rfl ?_); refine box_event ?hg (N := 25) ?hd (cs := #[.int .i64 0, .int .i64 0, .bool false, .int .i64 0, .int .i64 0, .int .i64 0]) (t := 25) ?hr ?_; (case hd => rfl); (case hg => rfl); (case hr => first | (go_simp; done) | (go_simp; rfl)); intro g25 hg_ w_ hbox hb; have HN16_25 := Aside0.mk (show g16 ≠ g25 from by have := blk_lt BK16.out; omega); have HN17_25 := Aside0.mk (show g17 ≠ g25 from by have := blk_lt BK17.out; omega); have HN18_25 := Aside0.mk (show g18 ≠ g25 from by have := blk_lt BK18.out; omega); have HN20_25 := Aside0.mk (show g20 ≠ g25 from by have := blk_lt BK20.out; omega); have HN22_25 := Aside0.mk (show g22 ≠ g25 from by have := blk_lt BK22.out; omega); have HN23_25 := Aside0.mk (show g23 ≠ g25 from by have := blk_lt BK23.out; omega); have HG25 := Aside0.mk (show w.heap.size ≤ g25 from Nat.le_trans (below_size HB.out) (Nat.le_of_eq hg_.symm)); have n_ := Aside0.mk (below_step HB.out hb); clear HB; have HB := n_; clear n_; have n_ := Aside0.mk (blk_below BK16.out hb); (try clear c16_0 z16_0 c16_1 z16_1 c16_2 z16_2 c16_3 z16_3 c16_4 z16_4 c16_5 z16_5); clear BK16; have BK16 := n_; clear n_; have n_ := Aside0.mk (blk_below BK17.out hb); (try clear c17_0); clear BK17; have BK17 := n_; clear n_; have n_ := Aside0.mk (blk_below BK18.out hb); (try clear c18_0 z18_0 c18_1 z18_1 c18_2 z18_2); clear BK18; have BK18 := n_; clear n_; have n_ := Aside0.mk (blk_below BK20.out hb); (try clear c20_0 z20_0 c20_1 z20_1 c20_2 z20_2); clear BK20; have BK20 := n_; clear n_; have n_ := Aside0.mk (blk_below BK22.out hb); (try clear c22_0 z22_0 c22_1 z22_1 c22_2 z22_2 c22_3 z22_3 c22_4 z22_4 c22_5 z22_5); clear BK22; have BK22 := n_; clear n_; have n_ := Aside0.mk (blk_below BK23.out hb); (try clear c23_0 z23_0 c23_1 z23_1 c23_2 z23_2); clear BK23; have BK23 := n_; clear n_; have c16_0 : w_.cell? ⟨g16, 0, none⟩ = some (.int .i64 5) := (blk_cell BK16.out 0).trans rfl; have z16_0 := blk_frozen BK16.out 0; have c16_1 : w_.cell? ⟨g16, 1, none⟩ = some (.int .i64 0) := (blk_cell BK16.out 1).trans rfl; have z16_1 := blk_frozen BK16.out 1; have c16_2 : w_.cell? ⟨g16, 2, none⟩ = some (.bool true) := (blk_cell BK16.out 2).trans rfl; have z16_2 := blk_frozen BK16.out 2; have c16_3 : w_.cell? ⟨g16, 3, none⟩ = some (.int .i64 pr) := (blk_cell BK16.out 3).trans rfl; have z16_3 := blk_frozen BK16.out 3; have c16_4 : w_.cell? ⟨g16, 4, none⟩ = some (.int .i64 ra) := (blk_cell BK16.out 4).trans rfl; have z16_4 := blk_frozen BK16.out 4; have c16_5 : w_.cell? ⟨g16, 5, none⟩ = some (.int .i64 ca) := (blk_cell BK16.out 5).trans rfl; have z16_5 := blk_frozen BK16.out 5; have c18_0 : w_.cell? ⟨g18, 0, none⟩ = some (.int .i64 sw) := (blk_cell BK18.out 0).trans rfl; have z18_0 := blk_frozen BK18.out 0; have c18_1 : w_.cell? ⟨g18, 1, none⟩ = some (.int .i64 sb) := (blk_cell BK18.out 1).trans rfl; have z18_1 := blk_frozen BK18.out 1; have c18_2 : w_.cell? ⟨g18, 2, none⟩ = some (.int .i64 sv) := (blk_cell BK18.out 2).trans rfl; have z18_2 := blk_frozen BK18.out 2; have c20_0 : w_.cell? ⟨g20, 0, none⟩ = some (.int .i64 uw) := (blk_cell BK20.out 0).trans rfl; have z20_0 := blk_frozen BK20.out 0; have c20_1 : w_.cell? ⟨g20, 1, none⟩ = some (.int .i64 ub) := (blk_cell BK20.out 1).trans rfl; have z20_1 := blk_frozen BK20.out 1; have c20_2 : w_.cell? ⟨g20, 2, none⟩ = some (.int .i64 uv) := (blk_cell BK20.out 2).trans rfl; have z20_2 := blk_frozen BK20.out 2; have c22_0 : w_.cell? ⟨g22, 0, none⟩ = some (.int .i64 5) := (blk_cell BK22.out 0).trans rfl; have z22_0 := blk_frozen BK22.out 0; have c22_1 : w_.cell? ⟨g22, 1, none⟩ = some (.int .i64 0) := (blk_cell BK22.out 1).trans rfl; have z22_1 := blk_frozen BK22.out 1; have c22_2 : w_.cell? ⟨g22, 2, none⟩ = some (.bool true) := (blk_cell BK22.out 2).trans rfl; have z22_2 := blk_frozen BK22.out 2; have c22_3 : w_.cell? ⟨g22, 3, none⟩ = some (.int .i64 pr) := (blk_cell BK22.out 3).trans rfl; have z22_3 := blk_frozen BK22.out 3; have c22_4 : w_.cell? ⟨g22, 4, none⟩ = some (.int .i64 ra) := (blk_cell BK22.out 4).trans rfl; have z22_4 := blk_frozen BK22.out 4; have c22_5 : w_.cell? ⟨g22, 5, none⟩ = some (.int .i64 cb) := (blk_cell BK22.out 5).trans rfl; have z22_5 := blk_frozen BK22.out 5; have c23_0 : w_.cell? ⟨g23, 0, none⟩ = some (.int .i64 xw) := (blk_cell BK23.out 0).trans rfl; have z23_0 := blk_frozen BK23.out 0; have c23_1 : w_.cell? ⟨g23, 1, none⟩ = some (.int .i64 xb) := (blk_cell BK23.out 1).trans rfl; have z23_1 := blk_frozen BK23.out 1; have c23_2 : w_.cell? ⟨g23, 2, none⟩ = some (.int .i64 xv) := (blk_cell BK23.out 2).trans rfl; have z23_2 := blk_frozen BK23.out 2; have BK25 := Aside0.mk hbox; clear hb hbox hg_; have c25_0 : w_.cell? ⟨g25, 0, none⟩ = some (.int .i64 0) := (blk_cell BK25.out 0).trans rfl; have z25_0 := blk_frozen BK25.out 0; have c25_1 : w_.cell? ⟨g25, 1, none⟩ = some (.int .i64 0) := (blk_cell BK25.out 1).trans rfl; have z25_1 := blk_frozen BK25.out 1; have c25_2 : w_.cell? ⟨g25, 2, none⟩ = some (.bool false) := (blk_cell BK25.out 2).trans rfl; have z25_2 := blk_frozen BK25.out 2; have c25_3 : w_.cell? ⟨g25, 3, none⟩ = some (.int .i64 0) := (blk_cell BK25.out 3).trans rfl; have z25_3 := blk_frozen BK25.out 3; have c25_4 : w_.cell? ⟨g25, 4, none⟩ = some (.int .i64 0) := (blk_cell BK25.out 4).trans rfl; have z25_4 := blk_frozen BK25.out 4; have c25_5 : w_.cell? ⟨g25, 5, none⟩ = some (.int .i64 0) := (blk_cell BK25.out 5).trans rfl; have z25_5 := blk_frozen BK25.out 5))
    have n0_ := Aside0.mk ((((((HB.out.setCell (p := ⟨g25, 0, none⟩) HG25.out (.int .i64 5)).setCell (p := ⟨g25, 1, none⟩) HG25.out (.int .i64 0)).setCell (p := ⟨g25, 2, none⟩) HG25.out (.bool true)).setCell (p := ⟨g25, 3, none⟩) HG25.out (.int .i64 pr)).setCell (p := ⟨g25, 4, none⟩) HG25.out (.int .i64 ra)).setCell (p := ⟨g25, 5, none⟩) HG25.out (.int .i64 ca))
    have m25_ := Aside0.mk (blk_put (blk_put (blk_put (blk_put (blk_put (blk_put BK25.out 0 (.int .i64 5) rfl) 1 (.int .i64 0) rfl) 2 (.bool true) rfl) 3 (.int .i64 pr) rfl) 4 (.int .i64 ra) rfl) 5 (.int .i64 ca) rfl)
    have m16_ := Aside0.mk ((Below.heap_setCell _ ⟨g25, 5, none⟩ (.int .i64 ca) g16 (HN16_25.out)).trans ((Below.heap_setCell _ ⟨g25, 4, none⟩ (.int .i64 ra) g16 (HN16_25.out)).trans ((Below.heap_setCell _ ⟨g25, 3, none⟩ (.int .i64 pr) g16 (HN16_25.out)).trans ((Below.heap_setCell _ ⟨g25, 2, none⟩ (.bool true) g16 (HN16_25.out)).trans ((Below.heap_setCell _ ⟨g25, 1, none⟩ (.int .i64 0) g16 (HN16_25.out)).trans ((Below.heap_setCell _ ⟨g25, 0, none⟩ (.int .i64 5) g16 (HN16_25.out)).trans BK16.out))))))
    have m17_ := Aside0.mk ((Below.heap_setCell _ ⟨g25, 5, none⟩ (.int .i64 ca) g17 (HN17_25.out)).trans ((Below.heap_setCell _ ⟨g25, 4, none⟩ (.int .i64 ra) g17 (HN17_25.out)).trans ((Below.heap_setCell _ ⟨g25, 3, none⟩ (.int .i64 pr) g17 (HN17_25.out)).trans ((Below.heap_setCell _ ⟨g25, 2, none⟩ (.bool true) g17 (HN17_25.out)).trans ((Below.heap_setCell _ ⟨g25, 1, none⟩ (.int .i64 0) g17 (HN17_25.out)).trans ((Below.heap_setCell _ ⟨g25, 0, none⟩ (.int .i64 5) g17 (HN17_25.out)).trans BK17.out))))))
    have m18_ := Aside0.mk ((Below.heap_setCell _ ⟨g25, 5, none⟩ (.int .i64 ca) g18 (HN18_25.out)).trans ((Below.heap_setCell _ ⟨g25, 4, none⟩ (.int .i64 ra) g18 (HN18_25.out)).trans ((Below.heap_setCell _ ⟨g25, 3, none⟩ (.int .i64 pr) g18 (HN18_25.out)).trans ((Below.heap_setCell _ ⟨g25, 2, none⟩ (.bool true) g18 (HN18_25.out)).trans ((Below.heap_setCell _ ⟨g25, 1, none⟩ (.int .i64 0) g18 (HN18_25.out)).trans ((Below.heap_setCell _ ⟨g25, 0, none⟩ (.int .i64 5) g18 (HN18_25.out)).trans BK18.out))))))
    have m20_ := Aside0.mk ((Below.heap_setCell _ ⟨g25, 5, none⟩ (.int .i64 ca) g20 (HN20_25.out)).trans ((Below.heap_setCell _ ⟨g25, 4, none⟩ (.int .i64 ra) g20 (HN20_25.out)).trans ((Below.heap_setCell _ ⟨g25, 3, none⟩ (.int .i64 pr) g20 (HN20_25.out)).trans ((Below.heap_setCell _ ⟨g25, 2, none⟩ (.bool true) g20 (HN20_25.out)).trans ((Below.heap_setCell _ ⟨g25, 1, none⟩ (.int .i64 0) g20 (HN20_25.out)).trans ((Below.heap_setCell _ ⟨g25, 0, none⟩ (.int .i64 5) g20 (HN20_25.out)).trans BK20.out))))))
    have m22_ := Aside0.mk ((Below.heap_setCell _ ⟨g25, 5, none⟩ (.int .i64 ca) g22 (HN22_25.out)).trans ((Below.heap_setCell _ ⟨g25, 4, none⟩ (.int .i64 ra) g22 (HN22_25.out)).trans ((Below.heap_setCell _ ⟨g25, 3, none⟩ (.int .i64 pr) g22 (HN22_25.out)).trans ((Below.heap_setCell _ ⟨g25, 2, none⟩ (.bool true) g22 (HN22_25.out)).trans ((Below.heap_setCell _ ⟨g25, 1, none⟩ (.int .i64 0) g22 (HN22_25.out)).trans ((Below.heap_setCell _ ⟨g25, 0, none⟩ (.int .i64 5) g22 (HN22_25.out)).trans BK22.out))))))
    have m23_ := Aside0.mk ((Below.heap_setCell _ ⟨g25, 5, none⟩ (.int .i64 ca) g23 (HN23_25.out)).trans ((Below.heap_setCell _ ⟨g25, 4, none⟩ (.int .i64 ra) g23 (HN23_25.out)).trans ((Below.heap_setCell _ ⟨g25, 3, none⟩ (.int .i64 pr) g23 (HN23_25.out)).trans ((Below.heap_setCell _ ⟨g25, 2, none⟩ (.bool true) g23 (HN23_25.out)).trans ((Below.heap_setCell _ ⟨g25, 1, none⟩ (.int .i64 0) g23 (HN23_25.out)).trans ((Below.heap_setCell _ ⟨g25, 0, none⟩ (.int .i64 5) g23 (HN23_25.out)).trans BK23.out))))))
    clear HB BK16 BK17 BK18 BK20 BK22 BK23 BK25 c16_0 z16_0 c16_1 z16_1 c16_2 z16_2 c16_3 z16_3 c16_4 z16_4 c16_5 z16_5 c18_0 z18_0 c18_1 z18_1 c18_2 z18_2 c20_0 z20_0 c20_1 z20_1 c20_2 z20_2 c22_0 z22_0 c22_1 z22_1 c22_2 z22_2 c22_3 z22_3 c22_4 z22_4 c22_5 z22_5 c23_0 z23_0 c23_1 z23_1 c23_2 z23_2 c25_0 z25_0 c25_1 z25_1 c25_2 z25_2 c25_3 z25_3 c25_4 z25_4 c25_5 z25_5
    generalize ((((((w_.setCell ⟨g25, 0, none⟩ (.int .i64 5)).setCell ⟨g25, 1, none⟩ (.int .i64 0)).setCell ⟨g25, 2, none⟩ (.bool true)).setCell ⟨g25, 3, none⟩ (.int .i64 pr)).setCell ⟨g25, 4, none⟩ (.int .i64 ra)).setCell ⟨g25, 5, none⟩ (.int .i64 ca)) = v8 at n0_ m16_ m17_ m18_ m20_ m22_ m23_ m25_ ⊢
    have HB := n0_
    have BK16 : Aside0 (v8.heap[g16]? = some (.cells #[.int .i64 5, .int .i64 0, .bool true, .int .i64 pr, .int .i64 ra, .int .i64 ca] 25 (0, 0))) := ⟨m16_.out.trans rfl⟩
    have BK17 : Aside0 (v8.heap[g17]? = some (.cells #[.int .i64 1, .int .i64 4, .int .i64 2, .int .i64 3, .int .i64 0] 23 (0, 0))) := ⟨m17_.out.trans rfl⟩
    have BK18 : Aside0 (v8.heap[g18]? = some (.cells #[.int .i64 sw, .int .i64 sb, .int .i64 sv] 28 (0, 0))) := ⟨m18_.out.trans rfl⟩
    have BK20 : Aside0 (v8.heap[g20]? = some (.cells #[.int .i64 uw, .int .i64 ub, .int .i64 uv] 28 (0, 0))) := ⟨m20_.out.trans rfl⟩
    have BK22 : Aside0 (v8.heap[g22]? = some (.cells #[.int .i64 5, .int .i64 0, .bool true, .int .i64 pr, .int .i64 ra, .int .i64 cb] 25 (0, 0))) := ⟨m22_.out.trans rfl⟩
    have BK23 : Aside0 (v8.heap[g23]? = some (.cells #[.int .i64 xw, .int .i64 xb, .int .i64 xv] 28 (0, 0))) := ⟨m23_.out.trans rfl⟩
    have BK25 : Aside0 (v8.heap[g25]? = some (.cells #[.int .i64 5, .int .i64 0, .bool true, .int .i64 pr, .int .i64 ra, .int .i64 ca] 25 (0, 0))) := ⟨m25_.out.trans rfl⟩
    clear n0_ m16_ m17_ m18_ m20_ m22_ m23_ m25_
    clear da1 da2 da3 da4 db1 db2 db3 db4 dc1 dc2 dc3 dc4 dd1 dd2 de1 de2
    clear BK20 HG20 BK22 HG22 BK23 HG23
    have c25_0 : v8.cell? ⟨g25, 0, none⟩ = some (.int .i64 5) := (blk_cell BK25.out 0).trans rfl
    have z25_0 := blk_frozen BK25.out 0
    have c25_1 : v8.cell? ⟨g25, 1, none⟩ = some (.int .i64 0) := (blk_cell BK25.out 1).trans rfl
    have z25_1 := blk_frozen BK25.out 1
    have c25_2 : v8.cell? ⟨g25, 2, none⟩ = some (.bool true) := (blk_cell BK25.out 2).trans rfl
    have z25_2 := blk_frozen BK25.out 2
    have c25_3 : v8.cell? ⟨g25, 3, none⟩ = some (.int .i64 pr) := (blk_cell BK25.out 3).trans rfl
    have z25_3 := blk_frozen BK25.out 3
    have c25_4 : v8.cell? ⟨g25, 4, none⟩ = some (.int .i64 ra) := (blk_cell BK25.out 4).trans rfl
    have z25_4 := blk_frozen BK25.out 4
    have c25_5 : v8.cell? ⟨g25, 5, none⟩ = some (.int .i64 ca) := (blk_cell BK25.out 5).trans rfl
    have z25_5 := blk_frozen BK25.out 5
    go_upto_region 17 with fail
    have n0_ := Aside0.mk (HB.out.setCell (p := ⟨g25, 2, none⟩) HG25.out (.bool false))
    have m25_ := Aside0.mk (blk_put BK25.out 2 (.bool false) rfl)
    have m16_ := Aside0.mk ((Below.heap_setCell _ ⟨g25, 2, none⟩ (.bool false) g16 (HN16_25.out)).trans BK16.out)
    have m17_ := Aside0.mk ((Below.heap_setCell _ ⟨g25, 2, none⟩ (.bool false) g17 (HN17_25.out)).trans BK17.out)
    have m18_ := Aside0.mk ((Below.heap_setCell _ ⟨g25, 2, none⟩ (.bool false) g18 (HN18_25.out)).trans BK18.out)
    clear HB BK16 BK17 BK18 BK25 c25_0 z25_0 c25_1 z25_1 c25_2 z25_2 c25_3 z25_3 c25_4 z25_4 c25_5 z25_5
    generalize (v8.setCell ⟨g25, 2, none⟩ (.bool false)) = v9 at n0_ m16_ m17_ m18_ m25_ ⊢
    have HB := n0_
    have BK16 : Aside0 (v9.heap[g16]? = some (.cells #[.int .i64 5, .int .i64 0, .bool true, .int .i64 pr, .int .i64 ra, .int .i64 ca] 25 (0, 0))) := ⟨m16_.out.trans rfl⟩
    have BK17 : Aside0 (v9.heap[g17]? = some (.cells #[.int .i64 1, .int .i64 4, .int .i64 2, .int .i64 3, .int .i64 0] 23 (0, 0))) := ⟨m17_.out.trans rfl⟩
    have BK18 : Aside0 (v9.heap[g18]? = some (.cells #[.int .i64 sw, .int .i64 sb, .int .i64 sv] 28 (0, 0))) := ⟨m18_.out.trans rfl⟩
    have BK25 : Aside0 (v9.heap[g25]? = some (.cells #[.int .i64 5, .int .i64 0, .bool false, .int .i64 pr, .int .i64 ra, .int .i64 ca] 25 (0, 0))) := ⟨m25_.out.trans rfl⟩
    clear n0_ m16_ m17_ m18_ m25_
    have c16_0 : v9.cell? ⟨g16, 0, none⟩ = some (.int .i64 5) := (blk_cell BK16.out 0).trans rfl
    have z16_0 := blk_frozen BK16.out 0
    have c16_1 : v9.cell? ⟨g16, 1, none⟩ = some (.int .i64 0) := (blk_cell BK16.out 1).trans rfl
    have z16_1 := blk_frozen BK16.out 1
    have c16_2 : v9.cell? ⟨g16, 2, none⟩ = some (.bool true) := (blk_cell BK16.out 2).trans rfl
    have z16_2 := blk_frozen BK16.out 2
    have c16_3 : v9.cell? ⟨g16, 3, none⟩ = some (.int .i64 pr) := (blk_cell BK16.out 3).trans rfl
    have z16_3 := blk_frozen BK16.out 3
    have c16_4 : v9.cell? ⟨g16, 4, none⟩ = some (.int .i64 ra) := (blk_cell BK16.out 4).trans rfl
    have z16_4 := blk_frozen BK16.out 4
    have c16_5 : v9.cell? ⟨g16, 5, none⟩ = some (.int .i64 ca) := (blk_cell BK16.out 5).trans rfl
    have z16_5 := blk_frozen BK16.out 5
    go_upto_region 18 with (first
      | ((with_reducible refine gate_dst (N := 26) rfl ?_); refine box_event ?hg (N := 26) ?hd (cs := #[.int .i64 0, .int .i64 0, .bool false, .int .i64 0, .int .i64 0, .int .i64 0]) (t := 25) ?hr ?_; (case hd => rfl); (case hg => rfl); (case hr => first | (go_simp; done) | (go_simp; rfl)); intro g26 hg_ w_ hbox hb; have HN16_26 := Aside0.mk (show g16 ≠ g26 from by have := blk_lt BK16.out; omega); have HN17_26 := Aside0.mk (show g17 ≠ g26 from by have := blk_lt BK17.out; omega); have HN18_26 := Aside0.mk (show g18 ≠ g26 from by have := blk_lt BK18.out; omega); have HN25_26 := Aside0.mk (show g25 ≠ g26 from by have := blk_lt BK25.out; omega); have HG26 := Aside0.mk (show w.heap.size ≤ g26 from Nat.le_trans (below_size HB.out) (Nat.le_of_eq hg_.symm)); have n_ := Aside0.mk (below_step HB.out hb); clear HB; have HB := n_; clear n_; have n_ := Aside0.mk (blk_below BK16.out hb); (try clear c16_0 z16_0 c16_1 z16_1 c16_2 z16_2 c16_3 z16_3 c16_4 z16_4 c16_5 z16_5); clear BK16; have BK16 := n_; clear n_; have n_ := Aside0.mk (blk_below BK17.out hb); (try clear c17_0); clear BK17; have BK17 := n_; clear n_; have n_ := Aside0.mk (blk_below BK18.out hb); (try clear c18_0); clear BK18; have BK18 := n_; clear n_; have n_ := Aside0.mk (blk_below BK25.out hb); (try clear c25_0); clear BK25; have BK25 := n_; clear n_; have c16_0 : w_.cell? ⟨g16, 0, none⟩ = some (.int .i64 5) := (blk_cell BK16.out 0).trans rfl; have z16_0 := blk_frozen BK16.out 0; have c16_1 : w_.cell? ⟨g16, 1, none⟩ = some (.int .i64 0) := (blk_cell BK16.out 1).trans rfl; have z16_1 := blk_frozen BK16.out 1; have c16_2 : w_.cell? ⟨g16, 2, none⟩ = some (.bool true) := (blk_cell BK16.out 2).trans rfl; have z16_2 := blk_frozen BK16.out 2; have c16_3 : w_.cell? ⟨g16, 3, none⟩ = some (.int .i64 pr) := (blk_cell BK16.out 3).trans rfl; have z16_3 := blk_frozen BK16.out 3; have c16_4 : w_.cell? ⟨g16, 4, none⟩ = some (.int .i64 ra) := (blk_cell BK16.out 4).trans rfl; have z16_4 := blk_frozen BK16.out 4; have c16_5 : w_.cell? ⟨g16, 5, none⟩ = some (.int .i64 ca) := (blk_cell BK16.out 5).trans rfl; have z16_5 := blk_frozen BK16.out 5; have BK26 := Aside0.mk hbox; clear hb hbox hg_; have c26_0 : w_.cell? ⟨g26, 0, none⟩ = some (.int .i64 0) := (blk_cell BK26.out 0).trans rfl; have z26_0 := blk_frozen BK26.out 0; have c26_1 : w_.cell? ⟨g26, 1, none⟩ = some (.int .i64 0) := (blk_cell BK26.out 1).trans rfl; have z26_1 := blk_frozen BK26.out 1; have c26_2 : w_.cell? ⟨g26, 2, none⟩ = some (.bool false) := (blk_cell BK26.out 2).trans rfl; have z26_2 := blk_frozen BK26.out 2; have c26_3 : w_.cell? ⟨g26, 3, none⟩ = some (.int .i64 0) := (blk_cell BK26.out 3).trans rfl; have z26_3 := blk_frozen BK26.out 3; have c26_4 : w_.cell? ⟨g26, 4, none⟩ = some (.int .i64 0) := (blk_cell BK26.out 4).trans rfl; have z26_4 := blk_frozen BK26.out 4; have c26_5 : w_.cell? ⟨g26, 5, none⟩ = some (.int .i64 0) := (blk_cell BK26.out 5).trans rfl; have z26_5 := blk_frozen BK26.out 5))
    have n0_ := Aside0.mk ((((((HB.out.setCell (p := ⟨g26, 0, none⟩) HG26.out (.int .i64 5)).setCell (p := ⟨g26, 1, none⟩) HG26.out (.int .i64 0)).setCell (p := ⟨g26, 2, none⟩) HG26.out (.bool true)).setCell (p := ⟨g26, 3, none⟩) HG26.out (.int .i64 pr)).setCell (p := ⟨g26, 4, none⟩) HG26.out (.int .i64 ra)).setCell (p := ⟨g26, 5, none⟩) HG26.out (.int .i64 ca))
    have m26_ := Aside0.mk (blk_put (blk_put (blk_put (blk_put (blk_put (blk_put BK26.out 0 (.int .i64 5) rfl) 1 (.int .i64 0) rfl) 2 (.bool true) rfl) 3 (.int .i64 pr) rfl) 4 (.int .i64 ra) rfl) 5 (.int .i64 ca) rfl)
    have m16_ := Aside0.mk ((Below.heap_setCell _ ⟨g26, 5, none⟩ (.int .i64 ca) g16 (HN16_26.out)).trans ((Below.heap_setCell _ ⟨g26, 4, none⟩ (.int .i64 ra) g16 (HN16_26.out)).trans ((Below.heap_setCell _ ⟨g26, 3, none⟩ (.int .i64 pr) g16 (HN16_26.out)).trans ((Below.heap_setCell _ ⟨g26, 2, none⟩ (.bool true) g16 (HN16_26.out)).trans ((Below.heap_setCell _ ⟨g26, 1, none⟩ (.int .i64 0) g16 (HN16_26.out)).trans ((Below.heap_setCell _ ⟨g26, 0, none⟩ (.int .i64 5) g16 (HN16_26.out)).trans BK16.out))))))
    have m17_ := Aside0.mk ((Below.heap_setCell _ ⟨g26, 5, none⟩ (.int .i64 ca) g17 (HN17_26.out)).trans ((Below.heap_setCell _ ⟨g26, 4, none⟩ (.int .i64 ra) g17 (HN17_26.out)).trans ((Below.heap_setCell _ ⟨g26, 3, none⟩ (.int .i64 pr) g17 (HN17_26.out)).trans ((Below.heap_setCell _ ⟨g26, 2, none⟩ (.bool true) g17 (HN17_26.out)).trans ((Below.heap_setCell _ ⟨g26, 1, none⟩ (.int .i64 0) g17 (HN17_26.out)).trans ((Below.heap_setCell _ ⟨g26, 0, none⟩ (.int .i64 5) g17 (HN17_26.out)).trans BK17.out))))))
    have m18_ := Aside0.mk ((Below.heap_setCell _ ⟨g26, 5, none⟩ (.int .i64 ca) g18 (HN18_26.out)).trans ((Below.heap_setCell _ ⟨g26, 4, none⟩ (.int .i64 ra) g18 (HN18_26.out)).trans ((Below.heap_setCell _ ⟨g26, 3, none⟩ (.int .i64 pr) g18 (HN18_26.out)).trans ((Below.heap_setCell _ ⟨g26, 2, none⟩ (.bool true) g18 (HN18_26.out)).trans ((Below.heap_setCell _ ⟨g26, 1, none⟩ (.int .i64 0) g18 (HN18_26.out)).trans ((Below.heap_setCell _ ⟨g26, 0, none⟩ (.int .i64 5) g18 (HN18_26.out)).trans BK18.out))))))
    have m25_ := Aside0.mk ((Below.heap_setCell _ ⟨g26, 5, none⟩ (.int .i64 ca) g25 (HN25_26.out)).trans ((Below.heap_setCell _ ⟨g26, 4, none⟩ (.int .i64 ra) g25 (HN25_26.out)).trans ((Below.heap_setCell _ ⟨g26, 3, none⟩ (.int .i64 pr) g25 (HN25_26.out)).trans ((Below.heap_setCell _ ⟨g26, 2, none⟩ (.bool true) g25 (HN25_26.out)).trans ((Below.heap_setCell _ ⟨g26, 1, none⟩ (.int .i64 0) g25 (HN25_26.out)).trans ((Below.heap_setCell _ ⟨g26, 0, none⟩ (.int .i64 5) g25 (HN25_26.out)).trans BK25.out))))))
    clear HB BK16 BK17 BK18 BK25 BK26 c16_0 z16_0 c16_1 z16_1 c16_2 z16_2 c16_3 z16_3 c16_4 z16_4 c16_5 z16_5 c26_0 z26_0 c26_1 z26_1 c26_2 z26_2 c26_3 z26_3 c26_4 z26_4 c26_5 z26_5
    generalize ((((((w_.setCell ⟨g26, 0, none⟩ (.int .i64 5)).setCell ⟨g26, 1, none⟩ (.int .i64 0)).setCell ⟨g26, 2, none⟩ (.bool true)).setCell ⟨g26, 3, none⟩ (.int .i64 pr)).setCell ⟨g26, 4, none⟩ (.int .i64 ra)).setCell ⟨g26, 5, none⟩ (.int .i64 ca)) = v10 at n0_ m16_ m17_ m18_ m25_ m26_ ⊢
    have HB := n0_
    have BK16 : Aside0 (v10.heap[g16]? = some (.cells #[.int .i64 5, .int .i64 0, .bool true, .int .i64 pr, .int .i64 ra, .int .i64 ca] 25 (0, 0))) := ⟨m16_.out.trans rfl⟩
    have BK17 : Aside0 (v10.heap[g17]? = some (.cells #[.int .i64 1, .int .i64 4, .int .i64 2, .int .i64 3, .int .i64 0] 23 (0, 0))) := ⟨m17_.out.trans rfl⟩
    have BK18 : Aside0 (v10.heap[g18]? = some (.cells #[.int .i64 sw, .int .i64 sb, .int .i64 sv] 28 (0, 0))) := ⟨m18_.out.trans rfl⟩
    have BK25 : Aside0 (v10.heap[g25]? = some (.cells #[.int .i64 5, .int .i64 0, .bool false, .int .i64 pr, .int .i64 ra, .int .i64 ca] 25 (0, 0))) := ⟨m25_.out.trans rfl⟩
    have BK26 : Aside0 (v10.heap[g26]? = some (.cells #[.int .i64 5, .int .i64 0, .bool true, .int .i64 pr, .int .i64 ra, .int .i64 ca] 25 (0, 0))) := ⟨m26_.out.trans rfl⟩
    clear n0_ m16_ m17_ m18_ m25_ m26_
    have c26_0 : v10.cell? ⟨g26, 0, none⟩ = some (.int .i64 5) := (blk_cell BK26.out 0).trans rfl
    have z26_0 := blk_frozen BK26.out 0
    have c26_1 : v10.cell? ⟨g26, 1, none⟩ = some (.int .i64 0) := (blk_cell BK26.out 1).trans rfl
    have z26_1 := blk_frozen BK26.out 1
    have c26_2 : v10.cell? ⟨g26, 2, none⟩ = some (.bool true) := (blk_cell BK26.out 2).trans rfl
    have z26_2 := blk_frozen BK26.out 2
    have c26_3 : v10.cell? ⟨g26, 3, none⟩ = some (.int .i64 pr) := (blk_cell BK26.out 3).trans rfl
    have z26_3 := blk_frozen BK26.out 3
    have c26_4 : v10.cell? ⟨g26, 4, none⟩ = some (.int .i64 ra) := (blk_cell BK26.out 4).trans rfl
    have z26_4 := blk_frozen BK26.out 4
    have c26_5 : v10.cell? ⟨g26, 5, none⟩ = some (.int .i64 ca) := (blk_cell BK26.out 5).trans rfl
    have z26_5 := blk_frozen BK26.out 5
    go_upto_region 19 with fail
    have n0_ := Aside0.mk (HB.out.setCell (p := ⟨g26, 1, none⟩) HG26.out (.int .i64 4))
    have m26_ := Aside0.mk (blk_put BK26.out 1 (.int .i64 4) rfl)
    have m16_ := Aside0.mk ((Below.heap_setCell _ ⟨g26, 1, none⟩ (.int .i64 4) g16 (HN16_26.out)).trans BK16.out)
    have m17_ := Aside0.mk ((Below.heap_setCell _ ⟨g26, 1, none⟩ (.int .i64 4) g17 (HN17_26.out)).trans BK17.out)
    have m18_ := Aside0.mk ((Below.heap_setCell _ ⟨g26, 1, none⟩ (.int .i64 4) g18 (HN18_26.out)).trans BK18.out)
    have m25_ := Aside0.mk ((Below.heap_setCell _ ⟨g26, 1, none⟩ (.int .i64 4) g25 (HN25_26.out)).trans BK25.out)
    clear HB BK16 BK17 BK18 BK25 BK26 c26_0 z26_0 c26_1 z26_1 c26_2 z26_2 c26_3 z26_3 c26_4 z26_4 c26_5 z26_5
    generalize (v10.setCell ⟨g26, 1, none⟩ (.int .i64 4)) = v11 at n0_ m16_ m17_ m18_ m25_ m26_ ⊢
    have HB := n0_
    have BK16 : Aside0 (v11.heap[g16]? = some (.cells #[.int .i64 5, .int .i64 0, .bool true, .int .i64 pr, .int .i64 ra, .int .i64 ca] 25 (0, 0))) := ⟨m16_.out.trans rfl⟩
    have BK17 : Aside0 (v11.heap[g17]? = some (.cells #[.int .i64 1, .int .i64 4, .int .i64 2, .int .i64 3, .int .i64 0] 23 (0, 0))) := ⟨m17_.out.trans rfl⟩
    have BK18 : Aside0 (v11.heap[g18]? = some (.cells #[.int .i64 sw, .int .i64 sb, .int .i64 sv] 28 (0, 0))) := ⟨m18_.out.trans rfl⟩
    have BK25 : Aside0 (v11.heap[g25]? = some (.cells #[.int .i64 5, .int .i64 0, .bool false, .int .i64 pr, .int .i64 ra, .int .i64 ca] 25 (0, 0))) := ⟨m25_.out.trans rfl⟩
    have BK26 : Aside0 (v11.heap[g26]? = some (.cells #[.int .i64 5, .int .i64 4, .bool true, .int .i64 pr, .int .i64 ra, .int .i64 ca] 25 (0, 0))) := ⟨m26_.out.trans rfl⟩
    clear n0_ m16_ m17_ m18_ m25_ m26_
    have c17_0 : v11.cell? ⟨g17, 0, none⟩ = some (.int .i64 1) := (blk_cell BK17.out 0).trans rfl
    have z17_0 := blk_frozen BK17.out 0
    have c17_1 : v11.cell? ⟨g17, 1, none⟩ = some (.int .i64 4) := (blk_cell BK17.out 1).trans rfl
    have z17_1 := blk_frozen BK17.out 1
    have c17_2 : v11.cell? ⟨g17, 2, none⟩ = some (.int .i64 2) := (blk_cell BK17.out 2).trans rfl
    have z17_2 := blk_frozen BK17.out 2
    have c17_3 : v11.cell? ⟨g17, 3, none⟩ = some (.int .i64 3) := (blk_cell BK17.out 3).trans rfl
    have z17_3 := blk_frozen BK17.out 3
    have c17_4 : v11.cell? ⟨g17, 4, none⟩ = some (.int .i64 0) := (blk_cell BK17.out 4).trans rfl
    have z17_4 := blk_frozen BK17.out 4
    go_upto_region 20 with (first
      | ((with_reducible refine gate_dst (N := 27) rfl ?_); refine box_event ?hg (N := 27) ?hd (cs := #[.int .i64 0, .int .i64 0, .int .i64 0, .int .i64 0, .int .i64 0]) (t := 23) ?hr ?_; (case hd => rfl); (case hg => rfl); (case hr => first | (go_simp; done) | (go_simp; rfl)); intro g27 hg_ w_ hbox hb; have HN16_27 := Aside0.mk (show g16 ≠ g27 from by have := blk_lt BK16.out; omega); have HN17_27 := Aside0.mk (show g17 ≠ g27 from by have := blk_lt BK17.out; omega); have HN18_27 := Aside0.mk (show g18 ≠ g27 from by have := blk_lt BK18.out; omega); have HN25_27 := Aside0.mk (show g25 ≠ g27 from by have := blk_lt BK25.out; omega); have HN26_27 := Aside0.mk (show g26 ≠ g27 from by have := blk_lt BK26.out; omega); have HG27 := Aside0.mk (show w.heap.size ≤ g27 from Nat.le_trans (below_size HB.out) (Nat.le_of_eq hg_.symm)); have n_ := Aside0.mk (below_step HB.out hb); clear HB; have HB := n_; clear n_; have n_ := Aside0.mk (blk_below BK16.out hb); (try clear c16_0); clear BK16; have BK16 := n_; clear n_; have n_ := Aside0.mk (blk_below BK17.out hb); (try clear c17_0 z17_0 c17_1 z17_1 c17_2 z17_2 c17_3 z17_3 c17_4 z17_4); clear BK17; have BK17 := n_; clear n_; have n_ := Aside0.mk (blk_below BK18.out hb); (try clear c18_0); clear BK18; have BK18 := n_; clear n_; have n_ := Aside0.mk (blk_below BK25.out hb); (try clear c25_0); clear BK25; have BK25 := n_; clear n_; have n_ := Aside0.mk (blk_below BK26.out hb); (try clear c26_0); clear BK26; have BK26 := n_; clear n_; have c17_0 : w_.cell? ⟨g17, 0, none⟩ = some (.int .i64 1) := (blk_cell BK17.out 0).trans rfl; have z17_0 := blk_frozen BK17.out 0; have c17_1 : w_.cell? ⟨g17, 1, none⟩ = some (.int .i64 4) := (blk_cell BK17.out 1).trans rfl; have z17_1 := blk_frozen BK17.out 1; have c17_2 : w_.cell? ⟨g17, 2, none⟩ = some (.int .i64 2) := (blk_cell BK17.out 2).trans rfl; have z17_2 := blk_frozen BK17.out 2; have c17_3 : w_.cell? ⟨g17, 3, none⟩ = some (.int .i64 3) := (blk_cell BK17.out 3).trans rfl; have z17_3 := blk_frozen BK17.out 3; have c17_4 : w_.cell? ⟨g17, 4, none⟩ = some (.int .i64 0) := (blk_cell BK17.out 4).trans rfl; have z17_4 := blk_frozen BK17.out 4; have BK27 := Aside0.mk hbox; clear hb hbox hg_; have c27_0 : w_.cell? ⟨g27, 0, none⟩ = some (.int .i64 0) := (blk_cell BK27.out 0).trans rfl; have z27_0 := blk_frozen BK27.out 0; have c27_1 : w_.cell? ⟨g27, 1, none⟩ = some (.int .i64 0) := (blk_cell BK27.out 1).trans rfl; have z27_1 := blk_frozen BK27.out 1; have c27_2 : w_.cell? ⟨g27, 2, none⟩ = some (.int .i64 0) := (blk_cell BK27.out 2).trans rfl; have z27_2 := blk_frozen BK27.out 2; have c27_3 : w_.cell? ⟨g27, 3, none⟩ = some (.int .i64 0) := (blk_cell BK27.out 3).trans rfl; have z27_3 := blk_frozen BK27.out 3; have c27_4 : w_.cell? ⟨g27, 4, none⟩ = some (.int .i64 0) := (blk_cell BK27.out 4).trans rfl; have z27_4 := blk_frozen BK27.out 4))
    have n0_ := Aside0.mk (((((HB.out.setCell (p := ⟨g27, 0, none⟩) HG27.out (.int .i64 1)).setCell (p := ⟨g27, 1, none⟩) HG27.out (.int .i64 4)).setCell (p := ⟨g27, 2, none⟩) HG27.out (.int .i64 2)).setCell (p := ⟨g27, 3, none⟩) HG27.out (.int .i64 3)).setCell (p := ⟨g27, 4, none⟩) HG27.out (.int .i64 0))
    have m27_ := Aside0.mk (blk_put (blk_put (blk_put (blk_put (blk_put BK27.out 0 (.int .i64 1) rfl) 1 (.int .i64 4) rfl) 2 (.int .i64 2) rfl) 3 (.int .i64 3) rfl) 4 (.int .i64 0) rfl)
    have m16_ := Aside0.mk ((Below.heap_setCell _ ⟨g27, 4, none⟩ (.int .i64 0) g16 (HN16_27.out)).trans ((Below.heap_setCell _ ⟨g27, 3, none⟩ (.int .i64 3) g16 (HN16_27.out)).trans ((Below.heap_setCell _ ⟨g27, 2, none⟩ (.int .i64 2) g16 (HN16_27.out)).trans ((Below.heap_setCell _ ⟨g27, 1, none⟩ (.int .i64 4) g16 (HN16_27.out)).trans ((Below.heap_setCell _ ⟨g27, 0, none⟩ (.int .i64 1) g16 (HN16_27.out)).trans BK16.out)))))
    have m17_ := Aside0.mk ((Below.heap_setCell _ ⟨g27, 4, none⟩ (.int .i64 0) g17 (HN17_27.out)).trans ((Below.heap_setCell _ ⟨g27, 3, none⟩ (.int .i64 3) g17 (HN17_27.out)).trans ((Below.heap_setCell _ ⟨g27, 2, none⟩ (.int .i64 2) g17 (HN17_27.out)).trans ((Below.heap_setCell _ ⟨g27, 1, none⟩ (.int .i64 4) g17 (HN17_27.out)).trans ((Below.heap_setCell _ ⟨g27, 0, none⟩ (.int .i64 1) g17 (HN17_27.out)).trans BK17.out)))))
    have m18_ := Aside0.mk ((Below.heap_setCell _ ⟨g27, 4, none⟩ (.int .i64 0) g18 (HN18_27.out)).trans ((Below.heap_setCell _ ⟨g27, 3, none⟩ (.int .i64 3) g18 (HN18_27.out)).trans ((Below.heap_setCell _ ⟨g27, 2, none⟩ (.int .i64 2) g18 (HN18_27.out)).trans ((Below.heap_setCell _ ⟨g27, 1, none⟩ (.int .i64 4) g18 (HN18_27.out)).trans ((Below.heap_setCell _ ⟨g27, 0, none⟩ (.int .i64 1) g18 (HN18_27.out)).trans BK18.out)))))
    have m25_ := Aside0.mk ((Below.heap_setCell _ ⟨g27, 4, none⟩ (.int .i64 0) g25 (HN25_27.out)).trans ((Below.heap_setCell _ ⟨g27, 3, none⟩ (.int .i64 3) g25 (HN25_27.out)).trans ((Below.heap_setCell _ ⟨g27, 2, none⟩ (.int .i64 2) g25 (HN25_27.out)).trans ((Below.heap_setCell _ ⟨g27, 1, none⟩ (.int .i64 4) g25 (HN25_27.out)).trans ((Below.heap_setCell _ ⟨g27, 0, none⟩ (.int .i64 1) g25 (HN25_27.out)).trans BK25.out)))))
    have m26_ := Aside0.mk ((Below.heap_setCell _ ⟨g27, 4, none⟩ (.int .i64 0) g26 (HN26_27.out)).trans ((Below.heap_setCell _ ⟨g27, 3, none⟩ (.int .i64 3) g26 (HN26_27.out)).trans ((Below.heap_setCell _ ⟨g27, 2, none⟩ (.int .i64 2) g26 (HN26_27.out)).trans ((Below.heap_setCell _ ⟨g27, 1, none⟩ (.int .i64 4) g26 (HN26_27.out)).trans ((Below.heap_setCell _ ⟨g27, 0, none⟩ (.int .i64 1) g26 (HN26_27.out)).trans BK26.out)))))
    clear HB BK16 BK17 BK18 BK25 BK26 BK27 c17_0 z17_0 c17_1 z17_1 c17_2 z17_2 c17_3 z17_3 c17_4 z17_4 c27_0 z27_0 c27_1 z27_1 c27_2 z27_2 c27_3 z27_3 c27_4 z27_4
    generalize (((((w_.setCell ⟨g27, 0, none⟩ (.int .i64 1)).setCell ⟨g27, 1, none⟩ (.int .i64 4)).setCell ⟨g27, 2, none⟩ (.int .i64 2)).setCell ⟨g27, 3, none⟩ (.int .i64 3)).setCell ⟨g27, 4, none⟩ (.int .i64 0)) = v12 at n0_ m16_ m17_ m18_ m25_ m26_ m27_ ⊢
    have HB := n0_
    have BK16 : Aside0 (v12.heap[g16]? = some (.cells #[.int .i64 5, .int .i64 0, .bool true, .int .i64 pr, .int .i64 ra, .int .i64 ca] 25 (0, 0))) := ⟨m16_.out.trans rfl⟩
    have BK17 : Aside0 (v12.heap[g17]? = some (.cells #[.int .i64 1, .int .i64 4, .int .i64 2, .int .i64 3, .int .i64 0] 23 (0, 0))) := ⟨m17_.out.trans rfl⟩
    have BK18 : Aside0 (v12.heap[g18]? = some (.cells #[.int .i64 sw, .int .i64 sb, .int .i64 sv] 28 (0, 0))) := ⟨m18_.out.trans rfl⟩
    have BK25 : Aside0 (v12.heap[g25]? = some (.cells #[.int .i64 5, .int .i64 0, .bool false, .int .i64 pr, .int .i64 ra, .int .i64 ca] 25 (0, 0))) := ⟨m25_.out.trans rfl⟩
    have BK26 : Aside0 (v12.heap[g26]? = some (.cells #[.int .i64 5, .int .i64 4, .bool true, .int .i64 pr, .int .i64 ra, .int .i64 ca] 25 (0, 0))) := ⟨m26_.out.trans rfl⟩
    have BK27 : Aside0 (v12.heap[g27]? = some (.cells #[.int .i64 1, .int .i64 4, .int .i64 2, .int .i64 3, .int .i64 0] 23 (0, 0))) := ⟨m27_.out.trans rfl⟩
    clear n0_ m16_ m17_ m18_ m25_ m26_ m27_
    have c27_0 : v12.cell? ⟨g27, 0, none⟩ = some (.int .i64 1) := (blk_cell BK27.out 0).trans rfl
    have z27_0 := blk_frozen BK27.out 0
    have c27_1 : v12.cell? ⟨g27, 1, none⟩ = some (.int .i64 4) := (blk_cell BK27.out 1).trans rfl
    have z27_1 := blk_frozen BK27.out 1
    have c27_2 : v12.cell? ⟨g27, 2, none⟩ = some (.int .i64 2) := (blk_cell BK27.out 2).trans rfl
    have z27_2 := blk_frozen BK27.out 2
    have c27_3 : v12.cell? ⟨g27, 3, none⟩ = some (.int .i64 3) := (blk_cell BK27.out 3).trans rfl
    have z27_3 := blk_frozen BK27.out 3
    have c27_4 : v12.cell? ⟨g27, 4, none⟩ = some (.int .i64 0) := (blk_cell BK27.out 4).trans rfl
    have z27_4 := blk_frozen BK27.out 4
    go_upto_region 21 with fail
    have n0_ := Aside0.mk (HB.out.setCell (p := ⟨g27, 4, none⟩) HG27.out (.int .i64 5))
    have m27_ := Aside0.mk (blk_put BK27.out 4 (.int .i64 5) rfl)
    have m16_ := Aside0.mk ((Below.heap_setCell _ ⟨g27, 4, none⟩ (.int .i64 5) g16 (HN16_27.out)).trans BK16.out)
    have m17_ := Aside0.mk ((Below.heap_setCell _ ⟨g27, 4, none⟩ (.int .i64 5) g17 (HN17_27.out)).trans BK17.out)
    have m18_ := Aside0.mk ((Below.heap_setCell _ ⟨g27, 4, none⟩ (.int .i64 5) g18 (HN18_27.out)).trans BK18.out)
    have m25_ := Aside0.mk ((Below.heap_setCell _ ⟨g27, 4, none⟩ (.int .i64 5) g25 (HN25_27.out)).trans BK25.out)
    have m26_ := Aside0.mk ((Below.heap_setCell _ ⟨g27, 4, none⟩ (.int .i64 5) g26 (HN26_27.out)).trans BK26.out)
    clear HB BK16 BK17 BK18 BK25 BK26 BK27 c27_0 z27_0 c27_1 z27_1 c27_2 z27_2 c27_3 z27_3 c27_4 z27_4
    generalize (v12.setCell ⟨g27, 4, none⟩ (.int .i64 5)) = v13 at n0_ m16_ m17_ m18_ m25_ m26_ m27_ ⊢
    have HB := n0_
    have BK16 : Aside0 (v13.heap[g16]? = some (.cells #[.int .i64 5, .int .i64 0, .bool true, .int .i64 pr, .int .i64 ra, .int .i64 ca] 25 (0, 0))) := ⟨m16_.out.trans rfl⟩
    have BK17 : Aside0 (v13.heap[g17]? = some (.cells #[.int .i64 1, .int .i64 4, .int .i64 2, .int .i64 3, .int .i64 0] 23 (0, 0))) := ⟨m17_.out.trans rfl⟩
    have BK18 : Aside0 (v13.heap[g18]? = some (.cells #[.int .i64 sw, .int .i64 sb, .int .i64 sv] 28 (0, 0))) := ⟨m18_.out.trans rfl⟩
    have BK25 : Aside0 (v13.heap[g25]? = some (.cells #[.int .i64 5, .int .i64 0, .bool false, .int .i64 pr, .int .i64 ra, .int .i64 ca] 25 (0, 0))) := ⟨m25_.out.trans rfl⟩
    have BK26 : Aside0 (v13.heap[g26]? = some (.cells #[.int .i64 5, .int .i64 4, .bool true, .int .i64 pr, .int .i64 ra, .int .i64 ca] 25 (0, 0))) := ⟨m26_.out.trans rfl⟩
    have BK27 : Aside0 (v13.heap[g27]? = some (.cells #[.int .i64 1, .int .i64 4, .int .i64 2, .int .i64 3, .int .i64 5] 23 (0, 0))) := ⟨m27_.out.trans rfl⟩
    clear n0_ m16_ m17_ m18_ m25_ m26_ m27_
    have c17_0 : v13.cell? ⟨g17, 0, none⟩ = some (.int .i64 1) := (blk_cell BK17.out 0).trans rfl
    have z17_0 := blk_frozen BK17.out 0
    have c17_1 : v13.cell? ⟨g17, 1, none⟩ = some (.int .i64 4) := (blk_cell BK17.out 1).trans rfl
    have z17_1 := blk_frozen BK17.out 1
    have c17_2 : v13.cell? ⟨g17, 2, none⟩ = some (.int .i64 2) := (blk_cell BK17.out 2).trans rfl
    have z17_2 := blk_frozen BK17.out 2
    have c17_3 : v13.cell? ⟨g17, 3, none⟩ = some (.int .i64 3) := (blk_cell BK17.out 3).trans rfl
    have z17_3 := blk_frozen BK17.out 3
    have c17_4 : v13.cell? ⟨g17, 4, none⟩ = some (.int .i64 0) := (blk_cell BK17.out 4).trans rfl
    have z17_4 := blk_frozen BK17.out 4
    have c25_0 : v13.cell? ⟨g25, 0, none⟩ = some (.int .i64 5) := (blk_cell BK25.out 0).trans rfl
    have z25_0 := blk_frozen BK25.out 0
    have c25_1 : v13.cell? ⟨g25, 1, none⟩ = some (.int .i64 0) := (blk_cell BK25.out 1).trans rfl
    have z25_1 := blk_frozen BK25.out 1
    have c25_2 : v13.cell? ⟨g25, 2, none⟩ = some (.bool false) := (blk_cell BK25.out 2).trans rfl
    have z25_2 := blk_frozen BK25.out 2
    have c25_3 : v13.cell? ⟨g25, 3, none⟩ = some (.int .i64 pr) := (blk_cell BK25.out 3).trans rfl
    have z25_3 := blk_frozen BK25.out 3
    have c25_4 : v13.cell? ⟨g25, 4, none⟩ = some (.int .i64 ra) := (blk_cell BK25.out 4).trans rfl
    have z25_4 := blk_frozen BK25.out 4
    have c25_5 : v13.cell? ⟨g25, 5, none⟩ = some (.int .i64 ca) := (blk_cell BK25.out 5).trans rfl
    have z25_5 := blk_frozen BK25.out 5
    go_upto_region 22 with (first
      | (go_at_call 8; have hN := value_Of.calls vF 1 4 2 3 0 q 5 0 false pr ra ca nw nb nv ne _ (HG.out.below HB.out) HN.out; (with_reducible refine hN.mono ?_); clear hN; rintro e_ w_ ⟨rfl, hb⟩; have n_ := Aside0.mk (below_step HB.out hb); clear HB; have HB := n_; clear n_; have n_ := Aside0.mk (blk_below BK16.out hb); (try clear c16_0); clear BK16; have BK16 := n_; clear n_; have n_ := Aside0.mk (blk_below BK17.out hb); (try clear c17_0 z17_0 c17_1 z17_1 c17_2 z17_2 c17_3 z17_3 c17_4 z17_4); clear BK17; have BK17 := n_; clear n_; have n_ := Aside0.mk (blk_below BK18.out hb); (try clear c18_0); clear BK18; have BK18 := n_; clear n_; have n_ := Aside0.mk (blk_below BK25.out hb); (try clear c25_0 z25_0 c25_1 z25_1 c25_2 z25_2 c25_3 z25_3 c25_4 z25_4 c25_5 z25_5); clear BK25; have BK25 := n_; clear n_; have n_ := Aside0.mk (blk_below BK26.out hb); (try clear c26_0); clear BK26; have BK26 := n_; clear n_; have n_ := Aside0.mk (blk_below BK27.out hb); (try clear c27_0); clear BK27; have BK27 := n_; clear n_; have c17_0 : w_.cell? ⟨g17, 0, none⟩ = some (.int .i64 1) := (blk_cell BK17.out 0).trans rfl; have z17_0 := blk_frozen BK17.out 0; have c17_1 : w_.cell? ⟨g17, 1, none⟩ = some (.int .i64 4) := (blk_cell BK17.out 1).trans rfl; have z17_1 := blk_frozen BK17.out 1; have c17_2 : w_.cell? ⟨g17, 2, none⟩ = some (.int .i64 2) := (blk_cell BK17.out 2).trans rfl; have z17_2 := blk_frozen BK17.out 2; have c17_3 : w_.cell? ⟨g17, 3, none⟩ = some (.int .i64 3) := (blk_cell BK17.out 3).trans rfl; have z17_3 := blk_frozen BK17.out 3; have c17_4 : w_.cell? ⟨g17, 4, none⟩ = some (.int .i64 0) := (blk_cell BK17.out 4).trans rfl; have z17_4 := blk_frozen BK17.out 4; have c25_0 : w_.cell? ⟨g25, 0, none⟩ = some (.int .i64 5) := (blk_cell BK25.out 0).trans rfl; have z25_0 := blk_frozen BK25.out 0; have c25_1 : w_.cell? ⟨g25, 1, none⟩ = some (.int .i64 0) := (blk_cell BK25.out 1).trans rfl; have z25_1 := blk_frozen BK25.out 1; have c25_2 : w_.cell? ⟨g25, 2, none⟩ = some (.bool false) := (blk_cell BK25.out 2).trans rfl; have z25_2 := blk_frozen BK25.out 2; have c25_3 : w_.cell? ⟨g25, 3, none⟩ = some (.int .i64 pr) := (blk_cell BK25.out 3).trans rfl; have z25_3 := blk_frozen BK25.out 3; have c25_4 : w_.cell? ⟨g25, 4, none⟩ = some (.int .i64 ra) := (blk_cell BK25.out 4).trans rfl; have z25_4 := blk_frozen BK25.out 4; have c25_5 : w_.cell? ⟨g25, 5, none⟩ = some (.int .i64 ca) := (blk_cell BK25.out 5).trans rfl; have z25_5 := blk_frozen BK25.out 5; clear hb)
      | ((with_reducible refine gate_dst (N := 28) rfl ?_); refine box_event ?hg (N := 28) ?hd (cs := #[.int .i64 0, .int .i64 0, .int .i64 0]) (t := 28) ?hr ?_; (case hd => rfl); (case hg => rfl); (case hr => first | (go_simp; done) | (go_simp; rfl)); intro g28 hg_ w_ hbox hb; have HN16_28 := Aside0.mk (show g16 ≠ g28 from by have := blk_lt BK16.out; omega); have HN17_28 := Aside0.mk (show g17 ≠ g28 from by have := blk_lt BK17.out; omega); have HN18_28 := Aside0.mk (show g18 ≠ g28 from by have := blk_lt BK18.out; omega); have HN25_28 := Aside0.mk (show g25 ≠ g28 from by have := blk_lt BK25.out; omega); have HN26_28 := Aside0.mk (show g26 ≠ g28 from by have := blk_lt BK26.out; omega); have HN27_28 := Aside0.mk (show g27 ≠ g28 from by have := blk_lt BK27.out; omega); have HG28 := Aside0.mk (show w.heap.size ≤ g28 from Nat.le_trans (below_size HB.out) (Nat.le_of_eq hg_.symm)); have n_ := Aside0.mk (below_step HB.out hb); clear HB; have HB := n_; clear n_; have n_ := Aside0.mk (blk_below BK16.out hb); (try clear c16_0); clear BK16; have BK16 := n_; clear n_; have n_ := Aside0.mk (blk_below BK17.out hb); (try clear c17_0 z17_0 c17_1 z17_1 c17_2 z17_2 c17_3 z17_3 c17_4 z17_4); clear BK17; have BK17 := n_; clear n_; have n_ := Aside0.mk (blk_below BK18.out hb); (try clear c18_0); clear BK18; have BK18 := n_; clear n_; have n_ := Aside0.mk (blk_below BK25.out hb); (try clear c25_0 z25_0 c25_1 z25_1 c25_2 z25_2 c25_3 z25_3 c25_4 z25_4 c25_5 z25_5); clear BK25; have BK25 := n_; clear n_; have n_ := Aside0.mk (blk_below BK26.out hb); (try clear c26_0); clear BK26; have BK26 := n_; clear n_; have n_ := Aside0.mk (blk_below BK27.out hb); (try clear c27_0); clear BK27; have BK27 := n_; clear n_; have c17_0 : w_.cell? ⟨g17, 0, none⟩ = some (.int .i64 1) := (blk_cell BK17.out 0).trans rfl; have z17_0 := blk_frozen BK17.out 0; have c17_1 : w_.cell? ⟨g17, 1, none⟩ = some (.int .i64 4) := (blk_cell BK17.out 1).trans rfl; have z17_1 := blk_frozen BK17.out 1; have c17_2 : w_.cell? ⟨g17, 2, none⟩ = some (.int .i64 2) := (blk_cell BK17.out 2).trans rfl; have z17_2 := blk_frozen BK17.out 2; have c17_3 : w_.cell? ⟨g17, 3, none⟩ = some (.int .i64 3) := (blk_cell BK17.out 3).trans rfl; have z17_3 := blk_frozen BK17.out 3; have c17_4 : w_.cell? ⟨g17, 4, none⟩ = some (.int .i64 0) := (blk_cell BK17.out 4).trans rfl; have z17_4 := blk_frozen BK17.out 4; have c25_0 : w_.cell? ⟨g25, 0, none⟩ = some (.int .i64 5) := (blk_cell BK25.out 0).trans rfl; have z25_0 := blk_frozen BK25.out 0; have c25_1 : w_.cell? ⟨g25, 1, none⟩ = some (.int .i64 0) := (blk_cell BK25.out 1).trans rfl; have z25_1 := blk_frozen BK25.out 1; have c25_2 : w_.cell? ⟨g25, 2, none⟩ = some (.bool false) := (blk_cell BK25.out 2).trans rfl; have z25_2 := blk_frozen BK25.out 2; have c25_3 : w_.cell? ⟨g25, 3, none⟩ = some (.int .i64 pr) := (blk_cell BK25.out 3).trans rfl; have z25_3 := blk_frozen BK25.out 3; have c25_4 : w_.cell? ⟨g25, 4, none⟩ = some (.int .i64 ra) := (blk_cell BK25.out 4).trans rfl; have z25_4 := blk_frozen BK25.out 4; have c25_5 : w_.cell? ⟨g25, 5, none⟩ = some (.int .i64 ca) := (blk_cell BK25.out 5).trans rfl; have z25_5 := blk_frozen BK25.out 5; have BK28 := Aside0.mk hbox; clear hb hbox hg_; have c28_0 : w_.cell? ⟨g28, 0, none⟩ = some (.int .i64 0) := (blk_cell BK28.out 0).trans rfl; have z28_0 := blk_frozen BK28.out 0; have c28_1 : w_.cell? ⟨g28, 1, none⟩ = some (.int .i64 0) := (blk_cell BK28.out 1).trans rfl; have z28_1 := blk_frozen BK28.out 1; have c28_2 : w_.cell? ⟨g28, 2, none⟩ = some (.int .i64 0) := (blk_cell BK28.out 2).trans rfl; have z28_2 := blk_frozen BK28.out 2))
    have n0_ := Aside0.mk (((HB.out.setCell (p := ⟨g28, 0, none⟩) HG28.out (.int .i64 nw)).setCell (p := ⟨g28, 1, none⟩) HG28.out (.int .i64 nb)).setCell (p := ⟨g28, 2, none⟩) HG28.out (.int .i64 nv))
    have m28_ := Aside0.mk (blk_put (blk_put (blk_put BK28.out 0 (.int .i64 nw) rfl) 1 (.int .i64 nb) rfl) 2 (.int .i64 nv) rfl)
    have m16_ := Aside0.mk ((Below.heap_setCell _ ⟨g28, 2, none⟩ (.int .i64 nv) g16 (HN16_28.out)).trans ((Below.heap_setCell _ ⟨g28, 1, none⟩ (.int .i64 nb) g16 (HN16_28.out)).trans ((Below.heap_setCell _ ⟨g28, 0, none⟩ (.int .i64 nw) g16 (HN16_28.out)).trans BK16.out)))
    have m17_ := Aside0.mk ((Below.heap_setCell _ ⟨g28, 2, none⟩ (.int .i64 nv) g17 (HN17_28.out)).trans ((Below.heap_setCell _ ⟨g28, 1, none⟩ (.int .i64 nb) g17 (HN17_28.out)).trans ((Below.heap_setCell _ ⟨g28, 0, none⟩ (.int .i64 nw) g17 (HN17_28.out)).trans BK17.out)))
    have m18_ := Aside0.mk ((Below.heap_setCell _ ⟨g28, 2, none⟩ (.int .i64 nv) g18 (HN18_28.out)).trans ((Below.heap_setCell _ ⟨g28, 1, none⟩ (.int .i64 nb) g18 (HN18_28.out)).trans ((Below.heap_setCell _ ⟨g28, 0, none⟩ (.int .i64 nw) g18 (HN18_28.out)).trans BK18.out)))
    have m25_ := Aside0.mk ((Below.heap_setCell _ ⟨g28, 2, none⟩ (.int .i64 nv) g25 (HN25_28.out)).trans ((Below.heap_setCell _ ⟨g28, 1, none⟩ (.int .i64 nb) g25 (HN25_28.out)).trans ((Below.heap_setCell _ ⟨g28, 0, none⟩ (.int .i64 nw) g25 (HN25_28.out)).trans BK25.out)))
    have m26_ := Aside0.mk ((Below.heap_setCell _ ⟨g28, 2, none⟩ (.int .i64 nv) g26 (HN26_28.out)).trans ((Below.heap_setCell _ ⟨g28, 1, none⟩ (.int .i64 nb) g26 (HN26_28.out)).trans ((Below.heap_setCell _ ⟨g28, 0, none⟩ (.int .i64 nw) g26 (HN26_28.out)).trans BK26.out)))
    have m27_ := Aside0.mk ((Below.heap_setCell _ ⟨g28, 2, none⟩ (.int .i64 nv) g27 (HN27_28.out)).trans ((Below.heap_setCell _ ⟨g28, 1, none⟩ (.int .i64 nb) g27 (HN27_28.out)).trans ((Below.heap_setCell _ ⟨g28, 0, none⟩ (.int .i64 nw) g27 (HN27_28.out)).trans BK27.out)))
    clear HB BK16 BK17 BK18 BK25 BK26 BK27 BK28 c17_0 z17_0 c17_1 z17_1 c17_2 z17_2 c17_3 z17_3 c17_4 z17_4 c25_0 z25_0 c25_1 z25_1 c25_2 z25_2 c25_3 z25_3 c25_4 z25_4 c25_5 z25_5 c28_0 z28_0 c28_1 z28_1 c28_2 z28_2
    generalize (((w_.setCell ⟨g28, 0, none⟩ (.int .i64 nw)).setCell ⟨g28, 1, none⟩ (.int .i64 nb)).setCell ⟨g28, 2, none⟩ (.int .i64 nv)) = v14 at n0_ m16_ m17_ m18_ m25_ m26_ m27_ m28_ ⊢
    have HB := n0_
    have BK16 : Aside0 (v14.heap[g16]? = some (.cells #[.int .i64 5, .int .i64 0, .bool true, .int .i64 pr, .int .i64 ra, .int .i64 ca] 25 (0, 0))) := ⟨m16_.out.trans rfl⟩
    have BK17 : Aside0 (v14.heap[g17]? = some (.cells #[.int .i64 1, .int .i64 4, .int .i64 2, .int .i64 3, .int .i64 0] 23 (0, 0))) := ⟨m17_.out.trans rfl⟩
    have BK18 : Aside0 (v14.heap[g18]? = some (.cells #[.int .i64 sw, .int .i64 sb, .int .i64 sv] 28 (0, 0))) := ⟨m18_.out.trans rfl⟩
    have BK25 : Aside0 (v14.heap[g25]? = some (.cells #[.int .i64 5, .int .i64 0, .bool false, .int .i64 pr, .int .i64 ra, .int .i64 ca] 25 (0, 0))) := ⟨m25_.out.trans rfl⟩
    have BK26 : Aside0 (v14.heap[g26]? = some (.cells #[.int .i64 5, .int .i64 4, .bool true, .int .i64 pr, .int .i64 ra, .int .i64 ca] 25 (0, 0))) := ⟨m26_.out.trans rfl⟩
    have BK27 : Aside0 (v14.heap[g27]? = some (.cells #[.int .i64 1, .int .i64 4, .int .i64 2, .int .i64 3, .int .i64 5] 23 (0, 0))) := ⟨m27_.out.trans rfl⟩
    have BK28 : Aside0 (v14.heap[g28]? = some (.cells #[.int .i64 nw, .int .i64 nb, .int .i64 nv] 28 (0, 0))) := ⟨m28_.out.trans rfl⟩
    clear n0_ m16_ m17_ m18_ m25_ m26_ m27_ m28_
    clear BK25 HG25
    have c17_0 : v14.cell? ⟨g17, 0, none⟩ = some (.int .i64 1) := (blk_cell BK17.out 0).trans rfl
    have z17_0 := blk_frozen BK17.out 0
    have c17_1 : v14.cell? ⟨g17, 1, none⟩ = some (.int .i64 4) := (blk_cell BK17.out 1).trans rfl
    have z17_1 := blk_frozen BK17.out 1
    have c17_2 : v14.cell? ⟨g17, 2, none⟩ = some (.int .i64 2) := (blk_cell BK17.out 2).trans rfl
    have z17_2 := blk_frozen BK17.out 2
    have c17_3 : v14.cell? ⟨g17, 3, none⟩ = some (.int .i64 3) := (blk_cell BK17.out 3).trans rfl
    have z17_3 := blk_frozen BK17.out 3
    have c17_4 : v14.cell? ⟨g17, 4, none⟩ = some (.int .i64 0) := (blk_cell BK17.out 4).trans rfl
    have z17_4 := blk_frozen BK17.out 4
    have c26_0 : v14.cell? ⟨g26, 0, none⟩ = some (.int .i64 5) := (blk_cell BK26.out 0).trans rfl
    have z26_0 := blk_frozen BK26.out 0
    have c26_1 : v14.cell? ⟨g26, 1, none⟩ = some (.int .i64 4) := (blk_cell BK26.out 1).trans rfl
    have z26_1 := blk_frozen BK26.out 1
    have c26_2 : v14.cell? ⟨g26, 2, none⟩ = some (.bool true) := (blk_cell BK26.out 2).trans rfl
    have z26_2 := blk_frozen BK26.out 2
    have c26_3 : v14.cell? ⟨g26, 3, none⟩ = some (.int .i64 pr) := (blk_cell BK26.out 3).trans rfl
    have z26_3 := blk_frozen BK26.out 3
    have c26_4 : v14.cell? ⟨g26, 4, none⟩ = some (.int .i64 ra) := (blk_cell BK26.out 4).trans rfl
    have z26_4 := blk_frozen BK26.out 4
    have c26_5 : v14.cell? ⟨g26, 5, none⟩ = some (.int .i64 ca) := (blk_cell BK26.out 5).trans rfl
    have z26_5 := blk_frozen BK26.out 5
    go_upto_region 23 with (first
      | (go_at_call 8; have hN := value_Of.calls vF 1 4 2 3 0 q 5 4 true pr ra ca ow ob ov oe _ (HG.out.below HB.out) HO.out; (with_reducible refine hN.mono ?_); clear hN; rintro e_ w_ ⟨rfl, hb⟩; have n_ := Aside0.mk (below_step HB.out hb); clear HB; have HB := n_; clear n_; have n_ := Aside0.mk (blk_below BK16.out hb); (try clear c16_0); clear BK16; have BK16 := n_; clear n_; have n_ := Aside0.mk (blk_below BK17.out hb); (try clear c17_0 z17_0 c17_1 z17_1 c17_2 z17_2 c17_3 z17_3 c17_4 z17_4); clear BK17; have BK17 := n_; clear n_; have n_ := Aside0.mk (blk_below BK18.out hb); (try clear c18_0); clear BK18; have BK18 := n_; clear n_; have n_ := Aside0.mk (blk_below BK26.out hb); (try clear c26_0 z26_0 c26_1 z26_1 c26_2 z26_2 c26_3 z26_3 c26_4 z26_4 c26_5 z26_5); clear BK26; have BK26 := n_; clear n_; have n_ := Aside0.mk (blk_below BK27.out hb); (try clear c27_0); clear BK27; have BK27 := n_; clear n_; have n_ := Aside0.mk (blk_below BK28.out hb); (try clear c28_0); clear BK28; have BK28 := n_; clear n_; have c17_0 : w_.cell? ⟨g17, 0, none⟩ = some (.int .i64 1) := (blk_cell BK17.out 0).trans rfl; have z17_0 := blk_frozen BK17.out 0; have c17_1 : w_.cell? ⟨g17, 1, none⟩ = some (.int .i64 4) := (blk_cell BK17.out 1).trans rfl; have z17_1 := blk_frozen BK17.out 1; have c17_2 : w_.cell? ⟨g17, 2, none⟩ = some (.int .i64 2) := (blk_cell BK17.out 2).trans rfl; have z17_2 := blk_frozen BK17.out 2; have c17_3 : w_.cell? ⟨g17, 3, none⟩ = some (.int .i64 3) := (blk_cell BK17.out 3).trans rfl; have z17_3 := blk_frozen BK17.out 3; have c17_4 : w_.cell? ⟨g17, 4, none⟩ = some (.int .i64 0) := (blk_cell BK17.out 4).trans rfl; have z17_4 := blk_frozen BK17.out 4; have c26_0 : w_.cell? ⟨g26, 0, none⟩ = some (.int .i64 5) := (blk_cell BK26.out 0).trans rfl; have z26_0 := blk_frozen BK26.out 0; have c26_1 : w_.cell? ⟨g26, 1, none⟩ = some (.int .i64 4) := (blk_cell BK26.out 1).trans rfl; have z26_1 := blk_frozen BK26.out 1; have c26_2 : w_.cell? ⟨g26, 2, none⟩ = some (.bool true) := (blk_cell BK26.out 2).trans rfl; have z26_2 := blk_frozen BK26.out 2; have c26_3 : w_.cell? ⟨g26, 3, none⟩ = some (.int .i64 pr) := (blk_cell BK26.out 3).trans rfl; have z26_3 := blk_frozen BK26.out 3; have c26_4 : w_.cell? ⟨g26, 4, none⟩ = some (.int .i64 ra) := (blk_cell BK26.out 4).trans rfl; have z26_4 := blk_frozen BK26.out 4; have c26_5 : w_.cell? ⟨g26, 5, none⟩ = some (.int .i64 ca) := (blk_cell BK26.out 5).trans rfl; have z26_5 := blk_frozen BK26.out 5; clear hb)
      | ((with_reducible refine gate_dst (N := 30) rfl ?_); refine box_event ?hg (N := 30) ?hd (cs := #[.int .i64 0, .int .i64 0, .int .i64 0]) (t := 28) ?hr ?_; (case hd => rfl); (case hg => rfl); (case hr => first | (go_simp; done) | (go_simp; rfl)); intro g30 hg_ w_ hbox hb; have HN16_30 := Aside0.mk (show g16 ≠ g30 from by have := blk_lt BK16.out; omega); have HN17_30 := Aside0.mk (show g17 ≠ g30 from by have := blk_lt BK17.out; omega); have HN18_30 := Aside0.mk (show g18 ≠ g30 from by have := blk_lt BK18.out; omega); have HN26_30 := Aside0.mk (show g26 ≠ g30 from by have := blk_lt BK26.out; omega); have HN27_30 := Aside0.mk (show g27 ≠ g30 from by have := blk_lt BK27.out; omega); have HN28_30 := Aside0.mk (show g28 ≠ g30 from by have := blk_lt BK28.out; omega); have HG30 := Aside0.mk (show w.heap.size ≤ g30 from Nat.le_trans (below_size HB.out) (Nat.le_of_eq hg_.symm)); have n_ := Aside0.mk (below_step HB.out hb); clear HB; have HB := n_; clear n_; have n_ := Aside0.mk (blk_below BK16.out hb); (try clear c16_0); clear BK16; have BK16 := n_; clear n_; have n_ := Aside0.mk (blk_below BK17.out hb); (try clear c17_0 z17_0 c17_1 z17_1 c17_2 z17_2 c17_3 z17_3 c17_4 z17_4); clear BK17; have BK17 := n_; clear n_; have n_ := Aside0.mk (blk_below BK18.out hb); (try clear c18_0); clear BK18; have BK18 := n_; clear n_; have n_ := Aside0.mk (blk_below BK26.out hb); (try clear c26_0 z26_0 c26_1 z26_1 c26_2 z26_2 c26_3 z26_3 c26_4 z26_4 c26_5 z26_5); clear BK26; have BK26 := n_; clear n_; have n_ := Aside0.mk (blk_below BK27.out hb); (try clear c27_0); clear BK27; have BK27 := n_; clear n_; have n_ := Aside0.mk (blk_below BK28.out hb); (try clear c28_0); clear BK28; have BK28 := n_; clear n_; have c17_0 : w_.cell? ⟨g17, 0, none⟩ = some (.int .i64 1) := (blk_cell BK17.out 0).trans rfl; have z17_0 := blk_frozen BK17.out 0; have c17_1 : w_.cell? ⟨g17, 1, none⟩ = some (.int .i64 4) := (blk_cell BK17.out 1).trans rfl; have z17_1 := blk_frozen BK17.out 1; have c17_2 : w_.cell? ⟨g17, 2, none⟩ = some (.int .i64 2) := (blk_cell BK17.out 2).trans rfl; have z17_2 := blk_frozen BK17.out 2; have c17_3 : w_.cell? ⟨g17, 3, none⟩ = some (.int .i64 3) := (blk_cell BK17.out 3).trans rfl; have z17_3 := blk_frozen BK17.out 3; have c17_4 : w_.cell? ⟨g17, 4, none⟩ = some (.int .i64 0) := (blk_cell BK17.out 4).trans rfl; have z17_4 := blk_frozen BK17.out 4; have c26_0 : w_.cell? ⟨g26, 0, none⟩ = some (.int .i64 5) := (blk_cell BK26.out 0).trans rfl; have z26_0 := blk_frozen BK26.out 0; have c26_1 : w_.cell? ⟨g26, 1, none⟩ = some (.int .i64 4) := (blk_cell BK26.out 1).trans rfl; have z26_1 := blk_frozen BK26.out 1; have c26_2 : w_.cell? ⟨g26, 2, none⟩ = some (.bool true) := (blk_cell BK26.out 2).trans rfl; have z26_2 := blk_frozen BK26.out 2; have c26_3 : w_.cell? ⟨g26, 3, none⟩ = some (.int .i64 pr) := (blk_cell BK26.out 3).trans rfl; have z26_3 := blk_frozen BK26.out 3; have c26_4 : w_.cell? ⟨g26, 4, none⟩ = some (.int .i64 ra) := (blk_cell BK26.out 4).trans rfl; have z26_4 := blk_frozen BK26.out 4; have c26_5 : w_.cell? ⟨g26, 5, none⟩ = some (.int .i64 ca) := (blk_cell BK26.out 5).trans rfl; have z26_5 := blk_frozen BK26.out 5; have BK30 := Aside0.mk hbox; clear hb hbox hg_; have c30_0 : w_.cell? ⟨g30, 0, none⟩ = some (.int .i64 0) := (blk_cell BK30.out 0).trans rfl; have z30_0 := blk_frozen BK30.out 0; have c30_1 : w_.cell? ⟨g30, 1, none⟩ = some (.int .i64 0) := (blk_cell BK30.out 1).trans rfl; have z30_1 := blk_frozen BK30.out 1; have c30_2 : w_.cell? ⟨g30, 2, none⟩ = some (.int .i64 0) := (blk_cell BK30.out 2).trans rfl; have z30_2 := blk_frozen BK30.out 2))
    have n0_ := Aside0.mk (((HB.out.setCell (p := ⟨g30, 0, none⟩) HG30.out (.int .i64 ow)).setCell (p := ⟨g30, 1, none⟩) HG30.out (.int .i64 ob)).setCell (p := ⟨g30, 2, none⟩) HG30.out (.int .i64 ov))
    have m30_ := Aside0.mk (blk_put (blk_put (blk_put BK30.out 0 (.int .i64 ow) rfl) 1 (.int .i64 ob) rfl) 2 (.int .i64 ov) rfl)
    have m16_ := Aside0.mk ((Below.heap_setCell _ ⟨g30, 2, none⟩ (.int .i64 ov) g16 (HN16_30.out)).trans ((Below.heap_setCell _ ⟨g30, 1, none⟩ (.int .i64 ob) g16 (HN16_30.out)).trans ((Below.heap_setCell _ ⟨g30, 0, none⟩ (.int .i64 ow) g16 (HN16_30.out)).trans BK16.out)))
    have m17_ := Aside0.mk ((Below.heap_setCell _ ⟨g30, 2, none⟩ (.int .i64 ov) g17 (HN17_30.out)).trans ((Below.heap_setCell _ ⟨g30, 1, none⟩ (.int .i64 ob) g17 (HN17_30.out)).trans ((Below.heap_setCell _ ⟨g30, 0, none⟩ (.int .i64 ow) g17 (HN17_30.out)).trans BK17.out)))
    have m18_ := Aside0.mk ((Below.heap_setCell _ ⟨g30, 2, none⟩ (.int .i64 ov) g18 (HN18_30.out)).trans ((Below.heap_setCell _ ⟨g30, 1, none⟩ (.int .i64 ob) g18 (HN18_30.out)).trans ((Below.heap_setCell _ ⟨g30, 0, none⟩ (.int .i64 ow) g18 (HN18_30.out)).trans BK18.out)))
    have m26_ := Aside0.mk ((Below.heap_setCell _ ⟨g30, 2, none⟩ (.int .i64 ov) g26 (HN26_30.out)).trans ((Below.heap_setCell _ ⟨g30, 1, none⟩ (.int .i64 ob) g26 (HN26_30.out)).trans ((Below.heap_setCell _ ⟨g30, 0, none⟩ (.int .i64 ow) g26 (HN26_30.out)).trans BK26.out)))
    have m27_ := Aside0.mk ((Below.heap_setCell _ ⟨g30, 2, none⟩ (.int .i64 ov) g27 (HN27_30.out)).trans ((Below.heap_setCell _ ⟨g30, 1, none⟩ (.int .i64 ob) g27 (HN27_30.out)).trans ((Below.heap_setCell _ ⟨g30, 0, none⟩ (.int .i64 ow) g27 (HN27_30.out)).trans BK27.out)))
    have m28_ := Aside0.mk ((Below.heap_setCell _ ⟨g30, 2, none⟩ (.int .i64 ov) g28 (HN28_30.out)).trans ((Below.heap_setCell _ ⟨g30, 1, none⟩ (.int .i64 ob) g28 (HN28_30.out)).trans ((Below.heap_setCell _ ⟨g30, 0, none⟩ (.int .i64 ow) g28 (HN28_30.out)).trans BK28.out)))
    clear HB BK16 BK17 BK18 BK26 BK27 BK28 BK30 c17_0 z17_0 c17_1 z17_1 c17_2 z17_2 c17_3 z17_3 c17_4 z17_4 c26_0 z26_0 c26_1 z26_1 c26_2 z26_2 c26_3 z26_3 c26_4 z26_4 c26_5 z26_5 c30_0 z30_0 c30_1 z30_1 c30_2 z30_2
    generalize (((w_.setCell ⟨g30, 0, none⟩ (.int .i64 ow)).setCell ⟨g30, 1, none⟩ (.int .i64 ob)).setCell ⟨g30, 2, none⟩ (.int .i64 ov)) = v15 at n0_ m16_ m17_ m18_ m26_ m27_ m28_ m30_ ⊢
    have HB := n0_
    have BK16 : Aside0 (v15.heap[g16]? = some (.cells #[.int .i64 5, .int .i64 0, .bool true, .int .i64 pr, .int .i64 ra, .int .i64 ca] 25 (0, 0))) := ⟨m16_.out.trans rfl⟩
    have BK17 : Aside0 (v15.heap[g17]? = some (.cells #[.int .i64 1, .int .i64 4, .int .i64 2, .int .i64 3, .int .i64 0] 23 (0, 0))) := ⟨m17_.out.trans rfl⟩
    have BK18 : Aside0 (v15.heap[g18]? = some (.cells #[.int .i64 sw, .int .i64 sb, .int .i64 sv] 28 (0, 0))) := ⟨m18_.out.trans rfl⟩
    have BK26 : Aside0 (v15.heap[g26]? = some (.cells #[.int .i64 5, .int .i64 4, .bool true, .int .i64 pr, .int .i64 ra, .int .i64 ca] 25 (0, 0))) := ⟨m26_.out.trans rfl⟩
    have BK27 : Aside0 (v15.heap[g27]? = some (.cells #[.int .i64 1, .int .i64 4, .int .i64 2, .int .i64 3, .int .i64 5] 23 (0, 0))) := ⟨m27_.out.trans rfl⟩
    have BK28 : Aside0 (v15.heap[g28]? = some (.cells #[.int .i64 nw, .int .i64 nb, .int .i64 nv] 28 (0, 0))) := ⟨m28_.out.trans rfl⟩
    have BK30 : Aside0 (v15.heap[g30]? = some (.cells #[.int .i64 ow, .int .i64 ob, .int .i64 ov] 28 (0, 0))) := ⟨m30_.out.trans rfl⟩
    clear n0_ m16_ m17_ m18_ m26_ m27_ m28_ m30_
    clear BK26 HG26 BK17 HG17
    have c16_0 : v15.cell? ⟨g16, 0, none⟩ = some (.int .i64 5) := (blk_cell BK16.out 0).trans rfl
    have z16_0 := blk_frozen BK16.out 0
    have c16_1 : v15.cell? ⟨g16, 1, none⟩ = some (.int .i64 0) := (blk_cell BK16.out 1).trans rfl
    have z16_1 := blk_frozen BK16.out 1
    have c16_2 : v15.cell? ⟨g16, 2, none⟩ = some (.bool true) := (blk_cell BK16.out 2).trans rfl
    have z16_2 := blk_frozen BK16.out 2
    have c16_3 : v15.cell? ⟨g16, 3, none⟩ = some (.int .i64 pr) := (blk_cell BK16.out 3).trans rfl
    have z16_3 := blk_frozen BK16.out 3
    have c16_4 : v15.cell? ⟨g16, 4, none⟩ = some (.int .i64 ra) := (blk_cell BK16.out 4).trans rfl
    have z16_4 := blk_frozen BK16.out 4
    have c16_5 : v15.cell? ⟨g16, 5, none⟩ = some (.int .i64 ca) := (blk_cell BK16.out 5).trans rfl
    have z16_5 := blk_frozen BK16.out 5
    have c27_0 : v15.cell? ⟨g27, 0, none⟩ = some (.int .i64 1) := (blk_cell BK27.out 0).trans rfl
    have z27_0 := blk_frozen BK27.out 0
    have c27_1 : v15.cell? ⟨g27, 1, none⟩ = some (.int .i64 4) := (blk_cell BK27.out 1).trans rfl
    have z27_1 := blk_frozen BK27.out 1
    have c27_2 : v15.cell? ⟨g27, 2, none⟩ = some (.int .i64 2) := (blk_cell BK27.out 2).trans rfl
    have z27_2 := blk_frozen BK27.out 2
    have c27_3 : v15.cell? ⟨g27, 3, none⟩ = some (.int .i64 3) := (blk_cell BK27.out 3).trans rfl
    have z27_3 := blk_frozen BK27.out 3
    have c27_4 : v15.cell? ⟨g27, 4, none⟩ = some (.int .i64 5) := (blk_cell BK27.out 4).trans rfl
    have z27_4 := blk_frozen BK27.out 4
    go_upto_region 24 with (first
      | (go_at_call 8; have hN := value_Of.calls vF 1 4 2 3 5 q 5 0 true pr ra ca pw pb pv pe _ (HG.out.below HB.out) HP.out; (with_reducible refine hN.mono ?_); clear hN; rintro e_ w_ ⟨rfl, hb⟩; have n_ := Aside0.mk (below_step HB.out hb); clear HB; have HB := n_; clear n_; have n_ := Aside0.mk (blk_below BK16.out hb); (try clear c16_0 z16_0 c16_1 z16_1 c16_2 z16_2 c16_3 z16_3 c16_4 z16_4 c16_5 z16_5); clear BK16; have BK16 := n_; clear n_; have n_ := Aside0.mk (blk_below BK18.out hb); (try clear c18_0); clear BK18; have BK18 := n_; clear n_; have n_ := Aside0.mk (blk_below BK27.out hb); (try clear c27_0 z27_0 c27_1 z27_1 c27_2 z27_2 c27_3 z27_3 c27_4 z27_4); clear BK27; have BK27 := n_; clear n_; have n_ := Aside0.mk (blk_below BK28.out hb); (try clear c28_0); clear BK28; have BK28 := n_; clear n_; have n_ := Aside0.mk (blk_below BK30.out hb); (try clear c30_0); clear BK30; have BK30 := n_; clear n_; have c16_0 : w_.cell? ⟨g16, 0, none⟩ = some (.int .i64 5) := (blk_cell BK16.out 0).trans rfl; have z16_0 := blk_frozen BK16.out 0; have c16_1 : w_.cell? ⟨g16, 1, none⟩ = some (.int .i64 0) := (blk_cell BK16.out 1).trans rfl; have z16_1 := blk_frozen BK16.out 1; have c16_2 : w_.cell? ⟨g16, 2, none⟩ = some (.bool true) := (blk_cell BK16.out 2).trans rfl; have z16_2 := blk_frozen BK16.out 2; have c16_3 : w_.cell? ⟨g16, 3, none⟩ = some (.int .i64 pr) := (blk_cell BK16.out 3).trans rfl; have z16_3 := blk_frozen BK16.out 3; have c16_4 : w_.cell? ⟨g16, 4, none⟩ = some (.int .i64 ra) := (blk_cell BK16.out 4).trans rfl; have z16_4 := blk_frozen BK16.out 4; have c16_5 : w_.cell? ⟨g16, 5, none⟩ = some (.int .i64 ca) := (blk_cell BK16.out 5).trans rfl; have z16_5 := blk_frozen BK16.out 5; have c27_0 : w_.cell? ⟨g27, 0, none⟩ = some (.int .i64 1) := (blk_cell BK27.out 0).trans rfl; have z27_0 := blk_frozen BK27.out 0; have c27_1 : w_.cell? ⟨g27, 1, none⟩ = some (.int .i64 4) := (blk_cell BK27.out 1).trans rfl; have z27_1 := blk_frozen BK27.out 1; have c27_2 : w_.cell? ⟨g27, 2, none⟩ = some (.int .i64 2) := (blk_cell BK27.out 2).trans rfl; have z27_2 := blk_frozen BK27.out 2; have c27_3 : w_.cell? ⟨g27, 3, none⟩ = some (.int .i64 3) := (blk_cell BK27.out 3).trans rfl; have z27_3 := blk_frozen BK27.out 3; have c27_4 : w_.cell? ⟨g27, 4, none⟩ = some (.int .i64 5) := (blk_cell BK27.out 4).trans rfl; have z27_4 := blk_frozen BK27.out 4; clear hb)
      | ((with_reducible refine gate_dst (N := 32) rfl ?_); refine box_event ?hg (N := 32) ?hd (cs := #[.int .i64 0, .int .i64 0, .int .i64 0]) (t := 28) ?hr ?_; (case hd => rfl); (case hg => rfl); (case hr => first | (go_simp; done) | (go_simp; rfl)); intro g32 hg_ w_ hbox hb; have HN16_32 := Aside0.mk (show g16 ≠ g32 from by have := blk_lt BK16.out; omega); have HN18_32 := Aside0.mk (show g18 ≠ g32 from by have := blk_lt BK18.out; omega); have HN27_32 := Aside0.mk (show g27 ≠ g32 from by have := blk_lt BK27.out; omega); have HN28_32 := Aside0.mk (show g28 ≠ g32 from by have := blk_lt BK28.out; omega); have HN30_32 := Aside0.mk (show g30 ≠ g32 from by have := blk_lt BK30.out; omega); have HG32 := Aside0.mk (show w.heap.size ≤ g32 from Nat.le_trans (below_size HB.out) (Nat.le_of_eq hg_.symm)); have n_ := Aside0.mk (below_step HB.out hb); clear HB; have HB := n_; clear n_; have n_ := Aside0.mk (blk_below BK16.out hb); (try clear c16_0 z16_0 c16_1 z16_1 c16_2 z16_2 c16_3 z16_3 c16_4 z16_4 c16_5 z16_5); clear BK16; have BK16 := n_; clear n_; have n_ := Aside0.mk (blk_below BK18.out hb); (try clear c18_0); clear BK18; have BK18 := n_; clear n_; have n_ := Aside0.mk (blk_below BK27.out hb); (try clear c27_0 z27_0 c27_1 z27_1 c27_2 z27_2 c27_3 z27_3 c27_4 z27_4); clear BK27; have BK27 := n_; clear n_; have n_ := Aside0.mk (blk_below BK28.out hb); (try clear c28_0); clear BK28; have BK28 := n_; clear n_; have n_ := Aside0.mk (blk_below BK30.out hb); (try clear c30_0); clear BK30; have BK30 := n_; clear n_; have c16_0 : w_.cell? ⟨g16, 0, none⟩ = some (.int .i64 5) := (blk_cell BK16.out 0).trans rfl; have z16_0 := blk_frozen BK16.out 0; have c16_1 : w_.cell? ⟨g16, 1, none⟩ = some (.int .i64 0) := (blk_cell BK16.out 1).trans rfl; have z16_1 := blk_frozen BK16.out 1; have c16_2 : w_.cell? ⟨g16, 2, none⟩ = some (.bool true) := (blk_cell BK16.out 2).trans rfl; have z16_2 := blk_frozen BK16.out 2; have c16_3 : w_.cell? ⟨g16, 3, none⟩ = some (.int .i64 pr) := (blk_cell BK16.out 3).trans rfl; have z16_3 := blk_frozen BK16.out 3; have c16_4 : w_.cell? ⟨g16, 4, none⟩ = some (.int .i64 ra) := (blk_cell BK16.out 4).trans rfl; have z16_4 := blk_frozen BK16.out 4; have c16_5 : w_.cell? ⟨g16, 5, none⟩ = some (.int .i64 ca) := (blk_cell BK16.out 5).trans rfl; have z16_5 := blk_frozen BK16.out 5; have c27_0 : w_.cell? ⟨g27, 0, none⟩ = some (.int .i64 1) := (blk_cell BK27.out 0).trans rfl; have z27_0 := blk_frozen BK27.out 0; have c27_1 : w_.cell? ⟨g27, 1, none⟩ = some (.int .i64 4) := (blk_cell BK27.out 1).trans rfl; have z27_1 := blk_frozen BK27.out 1; have c27_2 : w_.cell? ⟨g27, 2, none⟩ = some (.int .i64 2) := (blk_cell BK27.out 2).trans rfl; have z27_2 := blk_frozen BK27.out 2; have c27_3 : w_.cell? ⟨g27, 3, none⟩ = some (.int .i64 3) := (blk_cell BK27.out 3).trans rfl; have z27_3 := blk_frozen BK27.out 3; have c27_4 : w_.cell? ⟨g27, 4, none⟩ = some (.int .i64 5) := (blk_cell BK27.out 4).trans rfl; have z27_4 := blk_frozen BK27.out 4; have BK32 := Aside0.mk hbox; clear hb hbox hg_; have c32_0 : w_.cell? ⟨g32, 0, none⟩ = some (.int .i64 0) := (blk_cell BK32.out 0).trans rfl; have z32_0 := blk_frozen BK32.out 0; have c32_1 : w_.cell? ⟨g32, 1, none⟩ = some (.int .i64 0) := (blk_cell BK32.out 1).trans rfl; have z32_1 := blk_frozen BK32.out 1; have c32_2 : w_.cell? ⟨g32, 2, none⟩ = some (.int .i64 0) := (blk_cell BK32.out 2).trans rfl; have z32_2 := blk_frozen BK32.out 2))
    have n0_ := Aside0.mk (((HB.out.setCell (p := ⟨g32, 0, none⟩) HG32.out (.int .i64 pw)).setCell (p := ⟨g32, 1, none⟩) HG32.out (.int .i64 pb)).setCell (p := ⟨g32, 2, none⟩) HG32.out (.int .i64 pv))
    have m32_ := Aside0.mk (blk_put (blk_put (blk_put BK32.out 0 (.int .i64 pw) rfl) 1 (.int .i64 pb) rfl) 2 (.int .i64 pv) rfl)
    have m16_ := Aside0.mk ((Below.heap_setCell _ ⟨g32, 2, none⟩ (.int .i64 pv) g16 (HN16_32.out)).trans ((Below.heap_setCell _ ⟨g32, 1, none⟩ (.int .i64 pb) g16 (HN16_32.out)).trans ((Below.heap_setCell _ ⟨g32, 0, none⟩ (.int .i64 pw) g16 (HN16_32.out)).trans BK16.out)))
    have m18_ := Aside0.mk ((Below.heap_setCell _ ⟨g32, 2, none⟩ (.int .i64 pv) g18 (HN18_32.out)).trans ((Below.heap_setCell _ ⟨g32, 1, none⟩ (.int .i64 pb) g18 (HN18_32.out)).trans ((Below.heap_setCell _ ⟨g32, 0, none⟩ (.int .i64 pw) g18 (HN18_32.out)).trans BK18.out)))
    have m27_ := Aside0.mk ((Below.heap_setCell _ ⟨g32, 2, none⟩ (.int .i64 pv) g27 (HN27_32.out)).trans ((Below.heap_setCell _ ⟨g32, 1, none⟩ (.int .i64 pb) g27 (HN27_32.out)).trans ((Below.heap_setCell _ ⟨g32, 0, none⟩ (.int .i64 pw) g27 (HN27_32.out)).trans BK27.out)))
    have m28_ := Aside0.mk ((Below.heap_setCell _ ⟨g32, 2, none⟩ (.int .i64 pv) g28 (HN28_32.out)).trans ((Below.heap_setCell _ ⟨g32, 1, none⟩ (.int .i64 pb) g28 (HN28_32.out)).trans ((Below.heap_setCell _ ⟨g32, 0, none⟩ (.int .i64 pw) g28 (HN28_32.out)).trans BK28.out)))
    have m30_ := Aside0.mk ((Below.heap_setCell _ ⟨g32, 2, none⟩ (.int .i64 pv) g30 (HN30_32.out)).trans ((Below.heap_setCell _ ⟨g32, 1, none⟩ (.int .i64 pb) g30 (HN30_32.out)).trans ((Below.heap_setCell _ ⟨g32, 0, none⟩ (.int .i64 pw) g30 (HN30_32.out)).trans BK30.out)))
    clear HB BK16 BK18 BK27 BK28 BK30 BK32 c16_0 z16_0 c16_1 z16_1 c16_2 z16_2 c16_3 z16_3 c16_4 z16_4 c16_5 z16_5 c27_0 z27_0 c27_1 z27_1 c27_2 z27_2 c27_3 z27_3 c27_4 z27_4 c32_0 z32_0 c32_1 z32_1 c32_2 z32_2
    generalize (((w_.setCell ⟨g32, 0, none⟩ (.int .i64 pw)).setCell ⟨g32, 1, none⟩ (.int .i64 pb)).setCell ⟨g32, 2, none⟩ (.int .i64 pv)) = v16 at n0_ m16_ m18_ m27_ m28_ m30_ m32_ ⊢
    have HB := n0_
    have BK16 : Aside0 (v16.heap[g16]? = some (.cells #[.int .i64 5, .int .i64 0, .bool true, .int .i64 pr, .int .i64 ra, .int .i64 ca] 25 (0, 0))) := ⟨m16_.out.trans rfl⟩
    have BK18 : Aside0 (v16.heap[g18]? = some (.cells #[.int .i64 sw, .int .i64 sb, .int .i64 sv] 28 (0, 0))) := ⟨m18_.out.trans rfl⟩
    have BK27 : Aside0 (v16.heap[g27]? = some (.cells #[.int .i64 1, .int .i64 4, .int .i64 2, .int .i64 3, .int .i64 5] 23 (0, 0))) := ⟨m27_.out.trans rfl⟩
    have BK28 : Aside0 (v16.heap[g28]? = some (.cells #[.int .i64 nw, .int .i64 nb, .int .i64 nv] 28 (0, 0))) := ⟨m28_.out.trans rfl⟩
    have BK30 : Aside0 (v16.heap[g30]? = some (.cells #[.int .i64 ow, .int .i64 ob, .int .i64 ov] 28 (0, 0))) := ⟨m30_.out.trans rfl⟩
    have BK32 : Aside0 (v16.heap[g32]? = some (.cells #[.int .i64 pw, .int .i64 pb, .int .i64 pv] 28 (0, 0))) := ⟨m32_.out.trans rfl⟩
    clear n0_ m16_ m18_ m27_ m28_ m30_ m32_
    obtain ⟨k8, k9, k10, k11, k12, k13⟩ := K8.out
    have ea : (nv == 0) = true := beq_iff_eq.mpr k8
    have eb : (ov == 0) = true := beq_iff_eq.mpr k9
    have ec : (pv == 0) = true := beq_iff_eq.mpr k10
    have ed : (nb == sb) = true := beq_iff_eq.mpr k11
    have ee : (ow == sw) = true := beq_iff_eq.mpr k12
    have ef : (pb == sb) = true := beq_iff_eq.mpr k13
    clear k8 k9 k10 k11 k12 k13
    have c18_0 : v16.cell? ⟨g18, 0, none⟩ = some (.int .i64 sw) := (blk_cell BK18.out 0).trans rfl
    have z18_0 := blk_frozen BK18.out 0
    have c18_1 : v16.cell? ⟨g18, 1, none⟩ = some (.int .i64 sb) := (blk_cell BK18.out 1).trans rfl
    have z18_1 := blk_frozen BK18.out 1
    have c18_2 : v16.cell? ⟨g18, 2, none⟩ = some (.int .i64 sv) := (blk_cell BK18.out 2).trans rfl
    have z18_2 := blk_frozen BK18.out 2
    have c28_0 : v16.cell? ⟨g28, 0, none⟩ = some (.int .i64 nw) := (blk_cell BK28.out 0).trans rfl
    have z28_0 := blk_frozen BK28.out 0
    have c28_1 : v16.cell? ⟨g28, 1, none⟩ = some (.int .i64 nb) := (blk_cell BK28.out 1).trans rfl
    have z28_1 := blk_frozen BK28.out 1
    have c28_2 : v16.cell? ⟨g28, 2, none⟩ = some (.int .i64 nv) := (blk_cell BK28.out 2).trans rfl
    have z28_2 := blk_frozen BK28.out 2
    have c30_0 : v16.cell? ⟨g30, 0, none⟩ = some (.int .i64 ow) := (blk_cell BK30.out 0).trans rfl
    have z30_0 := blk_frozen BK30.out 0
    have c30_1 : v16.cell? ⟨g30, 1, none⟩ = some (.int .i64 ob) := (blk_cell BK30.out 1).trans rfl
    have z30_1 := blk_frozen BK30.out 1
    have c30_2 : v16.cell? ⟨g30, 2, none⟩ = some (.int .i64 ov) := (blk_cell BK30.out 2).trans rfl
    have z30_2 := blk_frozen BK30.out 2
    have c32_0 : v16.cell? ⟨g32, 0, none⟩ = some (.int .i64 pw) := (blk_cell BK32.out 0).trans rfl
    have z32_0 := blk_frozen BK32.out 0
    have c32_1 : v16.cell? ⟨g32, 1, none⟩ = some (.int .i64 pb) := (blk_cell BK32.out 1).trans rfl
    have z32_1 := blk_frozen BK32.out 1
    have c32_2 : v16.cell? ⟨g32, 2, none⟩ = some (.int .i64 pv) := (blk_cell BK32.out 2).trans rfl
    have z32_2 := blk_frozen BK32.out 2
    go_wp2
    go_ret
    exact ⟨by first | rfl | simp, HB.out⟩
  · have dd1 : decide (ca ≤ cb) = false := decide_eq_false (by omega)
    have dd2 : (ca ≤ cb) = False := eq_false (by omega)
    clear k4 k5 k6 k7 hcc
    have c16_0 : v7.cell? ⟨g16, 0, none⟩ = some (.int .i64 5) := (blk_cell BK16.out 0).trans rfl
    have z16_0 := blk_frozen BK16.out 0
    have c16_1 : v7.cell? ⟨g16, 1, none⟩ = some (.int .i64 0) := (blk_cell BK16.out 1).trans rfl
    have z16_1 := blk_frozen BK16.out 1
    have c16_2 : v7.cell? ⟨g16, 2, none⟩ = some (.bool true) := (blk_cell BK16.out 2).trans rfl
    have z16_2 := blk_frozen BK16.out 2
    have c16_3 : v7.cell? ⟨g16, 3, none⟩ = some (.int .i64 pr) := (blk_cell BK16.out 3).trans rfl
    have z16_3 := blk_frozen BK16.out 3
    have c16_4 : v7.cell? ⟨g16, 4, none⟩ = some (.int .i64 ra) := (blk_cell BK16.out 4).trans rfl
    have z16_4 := blk_frozen BK16.out 4
    have c16_5 : v7.cell? ⟨g16, 5, none⟩ = some (.int .i64 ca) := (blk_cell BK16.out 5).trans rfl
    have z16_5 := blk_frozen BK16.out 5
    have c18_0 : v7.cell? ⟨g18, 0, none⟩ = some (.int .i64 sw) := (blk_cell BK18.out 0).trans rfl
    have z18_0 := blk_frozen BK18.out 0
    have c18_1 : v7.cell? ⟨g18, 1, none⟩ = some (.int .i64 sb) := (blk_cell BK18.out 1).trans rfl
    have z18_1 := blk_frozen BK18.out 1
    have c18_2 : v7.cell? ⟨g18, 2, none⟩ = some (.int .i64 sv) := (blk_cell BK18.out 2).trans rfl
    have z18_2 := blk_frozen BK18.out 2
    have c20_0 : v7.cell? ⟨g20, 0, none⟩ = some (.int .i64 uw) := (blk_cell BK20.out 0).trans rfl
    have z20_0 := blk_frozen BK20.out 0
    have c20_1 : v7.cell? ⟨g20, 1, none⟩ = some (.int .i64 ub) := (blk_cell BK20.out 1).trans rfl
    have z20_1 := blk_frozen BK20.out 1
    have c20_2 : v7.cell? ⟨g20, 2, none⟩ = some (.int .i64 uv) := (blk_cell BK20.out 2).trans rfl
    have z20_2 := blk_frozen BK20.out 2
    have c22_0 : v7.cell? ⟨g22, 0, none⟩ = some (.int .i64 5) := (blk_cell BK22.out 0).trans rfl
    have z22_0 := blk_frozen BK22.out 0
    have c22_1 : v7.cell? ⟨g22, 1, none⟩ = some (.int .i64 0) := (blk_cell BK22.out 1).trans rfl
    have z22_1 := blk_frozen BK22.out 1
    have c22_2 : v7.cell? ⟨g22, 2, none⟩ = some (.bool true) := (blk_cell BK22.out 2).trans rfl
    have z22_2 := blk_frozen BK22.out 2
    have c22_3 : v7.cell? ⟨g22, 3, none⟩ = some (.int .i64 pr) := (blk_cell BK22.out 3).trans rfl
    have z22_3 := blk_frozen BK22.out 3
    have c22_4 : v7.cell? ⟨g22, 4, none⟩ = some (.int .i64 ra) := (blk_cell BK22.out 4).trans rfl
    have z22_4 := blk_frozen BK22.out 4
    have c22_5 : v7.cell? ⟨g22, 5, none⟩ = some (.int .i64 cb) := (blk_cell BK22.out 5).trans rfl
    have z22_5 := blk_frozen BK22.out 5
    have c23_0 : v7.cell? ⟨g23, 0, none⟩ = some (.int .i64 xw) := (blk_cell BK23.out 0).trans rfl
    have z23_0 := blk_frozen BK23.out 0
    have c23_1 : v7.cell? ⟨g23, 1, none⟩ = some (.int .i64 xb) := (blk_cell BK23.out 1).trans rfl
    have z23_1 := blk_frozen BK23.out 1
    have c23_2 : v7.cell? ⟨g23, 2, none⟩ = some (.int .i64 xv) := (blk_cell BK23.out 2).trans rfl
    have z23_2 := blk_frozen BK23.out 2
    go_upto_region 16 with (first
      | ((with_reducible refine gate_dst (N := 25) rfl ?_); refine box_event ?hg (N := 25) ?hd (cs := #[.int .i64 0, .int .i64 0, .bool false, .int .i64 0, .int .i64 0, .int .i64 0]) (t := 25) ?hr ?_; (case hd => rfl); (case hg => rfl); (case hr => first | (go_simp; done) | (go_simp; rfl)); intro g25 hg_ w_ hbox hb; have HN16_25 := Aside0.mk (show g16 ≠ g25 from by have := blk_lt BK16.out; omega); have HN17_25 := Aside0.mk (show g17 ≠ g25 from by have := blk_lt BK17.out; omega); have HN18_25 := Aside0.mk (show g18 ≠ g25 from by have := blk_lt BK18.out; omega); have HN20_25 := Aside0.mk (show g20 ≠ g25 from by have := blk_lt BK20.out; omega); have HN22_25 := Aside0.mk (show g22 ≠ g25 from by have := blk_lt BK22.out; omega); have HN23_25 := Aside0.mk (show g23 ≠ g25 from by have := blk_lt BK23.out; omega); have HG25 := Aside0.mk (show w.heap.size ≤ g25 from Nat.le_trans (below_size HB.out) (Nat.le_of_eq hg_.symm)); have n_ := Aside0.mk (below_step HB.out hb); clear HB; have HB := n_; clear n_; have n_ := Aside0.mk (blk_below BK16.out hb); (try clear c16_0 z16_0 c16_1 z16_1 c16_2 z16_2 c16_3 z16_3 c16_4 z16_4 c16_5 z16_5); clear BK16; have BK16 := n_; clear n_; have n_ := Aside0.mk (blk_below BK17.out hb); (try clear c17_0); clear BK17; have BK17 := n_; clear n_; have n_ := Aside0.mk (blk_below BK18.out hb); (try clear c18_0 z18_0 c18_1 z18_1 c18_2 z18_2); clear BK18; have BK18 := n_; clear n_; have n_ := Aside0.mk (blk_below BK20.out hb); (try clear c20_0 z20_0 c20_1 z20_1 c20_2 z20_2); clear BK20; have BK20 := n_; clear n_; have n_ := Aside0.mk (blk_below BK22.out hb); (try clear c22_0 z22_0 c22_1 z22_1 c22_2 z22_2 c22_3 z22_3 c22_4 z22_4 c22_5 z22_5); clear BK22; have BK22 := n_; clear n_; have n_ := Aside0.mk (blk_below BK23.out hb); (try clear c23_0 z23_0 c23_1 z23_1 c23_2 z23_2); clear BK23; have BK23 := n_; clear n_; have c16_0 : w_.cell? ⟨g16, 0, none⟩ = some (.int .i64 5) := (blk_cell BK16.out 0).trans rfl; have z16_0 := blk_frozen BK16.out 0; have c16_1 : w_.cell? ⟨g16, 1, none⟩ = some (.int .i64 0) := (blk_cell BK16.out 1).trans rfl; have z16_1 := blk_frozen BK16.out 1; have c16_2 : w_.cell? ⟨g16, 2, none⟩ = some (.bool true) := (blk_cell BK16.out 2).trans rfl; have z16_2 := blk_frozen BK16.out 2; have c16_3 : w_.cell? ⟨g16, 3, none⟩ = some (.int .i64 pr) := (blk_cell BK16.out 3).trans rfl; have z16_3 := blk_frozen BK16.out 3; have c16_4 : w_.cell? ⟨g16, 4, none⟩ = some (.int .i64 ra) := (blk_cell BK16.out 4).trans rfl; have z16_4 := blk_frozen BK16.out 4; have c16_5 : w_.cell? ⟨g16, 5, none⟩ = some (.int .i64 ca) := (blk_cell BK16.out 5).trans rfl; have z16_5 := blk_frozen BK16.out 5; have c18_0 : w_.cell? ⟨g18, 0, none⟩ = some (.int .i64 sw) := (blk_cell BK18.out 0).trans rfl; have z18_0 := blk_frozen BK18.out 0; have c18_1 : w_.cell? ⟨g18, 1, none⟩ = some (.int .i64 sb) := (blk_cell BK18.out 1).trans rfl; have z18_1 := blk_frozen BK18.out 1; have c18_2 : w_.cell? ⟨g18, 2, none⟩ = some (.int .i64 sv) := (blk_cell BK18.out 2).trans rfl; have z18_2 := blk_frozen BK18.out 2; have c20_0 : w_.cell? ⟨g20, 0, none⟩ = some (.int .i64 uw) := (blk_cell BK20.out 0).trans rfl; have z20_0 := blk_frozen BK20.out 0; have c20_1 : w_.cell? ⟨g20, 1, none⟩ = some (.int .i64 ub) := (blk_cell BK20.out 1).trans rfl; have z20_1 := blk_frozen BK20.out 1; have c20_2 : w_.cell? ⟨g20, 2, none⟩ = some (.int .i64 uv) := (blk_cell BK20.out 2).trans rfl; have z20_2 := blk_frozen BK20.out 2; have c22_0 : w_.cell? ⟨g22, 0, none⟩ = some (.int .i64 5) := (blk_cell BK22.out 0).trans rfl; have z22_0 := blk_frozen BK22.out 0; have c22_1 : w_.cell? ⟨g22, 1, none⟩ = some (.int .i64 0) := (blk_cell BK22.out 1).trans rfl; have z22_1 := blk_frozen BK22.out 1; have c22_2 : w_.cell? ⟨g22, 2, none⟩ = some (.bool true) := (blk_cell BK22.out 2).trans rfl; have z22_2 := blk_frozen BK22.out 2; have c22_3 : w_.cell? ⟨g22, 3, none⟩ = some (.int .i64 pr) := (blk_cell BK22.out 3).trans rfl; have z22_3 := blk_frozen BK22.out 3; have c22_4 : w_.cell? ⟨g22, 4, none⟩ = some (.int .i64 ra) := (blk_cell BK22.out 4).trans rfl; have z22_4 := blk_frozen BK22.out 4; have c22_5 : w_.cell? ⟨g22, 5, none⟩ = some (.int .i64 cb) := (blk_cell BK22.out 5).trans rfl; have z22_5 := blk_frozen BK22.out 5; have c23_0 : w_.cell? ⟨g23, 0, none⟩ = some (.int .i64 xw) := (blk_cell BK23.out 0).trans rfl; have z23_0 := blk_frozen BK23.out 0; have c23_1 : w_.cell? ⟨g23, 1, none⟩ = some (.int .i64 xb) := (blk_cell BK23.out 1).trans rfl; have z23_1 := blk_frozen BK23.out 1; have c23_2 : w_.cell? ⟨g23, 2, none⟩ = some (.int .i64 xv) := (blk_cell BK23.out 2).trans rfl; have z23_2 := blk_frozen BK23.out 2; have BK25 := Aside0.mk hbox; clear hb hbox hg_; have c25_0 : w_.cell? ⟨g25, 0, none⟩ = some (.int .i64 0) := (blk_cell BK25.out 0).trans rfl; have z25_0 := blk_frozen BK25.out 0; have c25_1 : w_.cell? ⟨g25, 1, none⟩ = some (.int .i64 0) := (blk_cell BK25.out 1).trans rfl; have z25_1 := blk_frozen BK25.out 1; have c25_2 : w_.cell? ⟨g25, 2, none⟩ = some (.bool false) := (blk_cell BK25.out 2).trans rfl; have z25_2 := blk_frozen BK25.out 2; have c25_3 : w_.cell? ⟨g25, 3, none⟩ = some (.int .i64 0) := (blk_cell BK25.out 3).trans rfl; have z25_3 := blk_frozen BK25.out 3; have c25_4 : w_.cell? ⟨g25, 4, none⟩ = some (.int .i64 0) := (blk_cell BK25.out 4).trans rfl; have z25_4 := blk_frozen BK25.out 4; have c25_5 : w_.cell? ⟨g25, 5, none⟩ = some (.int .i64 0) := (blk_cell BK25.out 5).trans rfl; have z25_5 := blk_frozen BK25.out 5))
    have n0_ := Aside0.mk ((((((HB.out.setCell (p := ⟨g25, 0, none⟩) HG25.out (.int .i64 5)).setCell (p := ⟨g25, 1, none⟩) HG25.out (.int .i64 0)).setCell (p := ⟨g25, 2, none⟩) HG25.out (.bool true)).setCell (p := ⟨g25, 3, none⟩) HG25.out (.int .i64 pr)).setCell (p := ⟨g25, 4, none⟩) HG25.out (.int .i64 ra)).setCell (p := ⟨g25, 5, none⟩) HG25.out (.int .i64 ca))
    have m25_ := Aside0.mk (blk_put (blk_put (blk_put (blk_put (blk_put (blk_put BK25.out 0 (.int .i64 5) rfl) 1 (.int .i64 0) rfl) 2 (.bool true) rfl) 3 (.int .i64 pr) rfl) 4 (.int .i64 ra) rfl) 5 (.int .i64 ca) rfl)
    have m16_ := Aside0.mk ((Below.heap_setCell _ ⟨g25, 5, none⟩ (.int .i64 ca) g16 (HN16_25.out)).trans ((Below.heap_setCell _ ⟨g25, 4, none⟩ (.int .i64 ra) g16 (HN16_25.out)).trans ((Below.heap_setCell _ ⟨g25, 3, none⟩ (.int .i64 pr) g16 (HN16_25.out)).trans ((Below.heap_setCell _ ⟨g25, 2, none⟩ (.bool true) g16 (HN16_25.out)).trans ((Below.heap_setCell _ ⟨g25, 1, none⟩ (.int .i64 0) g16 (HN16_25.out)).trans ((Below.heap_setCell _ ⟨g25, 0, none⟩ (.int .i64 5) g16 (HN16_25.out)).trans BK16.out))))))
    have m17_ := Aside0.mk ((Below.heap_setCell _ ⟨g25, 5, none⟩ (.int .i64 ca) g17 (HN17_25.out)).trans ((Below.heap_setCell _ ⟨g25, 4, none⟩ (.int .i64 ra) g17 (HN17_25.out)).trans ((Below.heap_setCell _ ⟨g25, 3, none⟩ (.int .i64 pr) g17 (HN17_25.out)).trans ((Below.heap_setCell _ ⟨g25, 2, none⟩ (.bool true) g17 (HN17_25.out)).trans ((Below.heap_setCell _ ⟨g25, 1, none⟩ (.int .i64 0) g17 (HN17_25.out)).trans ((Below.heap_setCell _ ⟨g25, 0, none⟩ (.int .i64 5) g17 (HN17_25.out)).trans BK17.out))))))
    have m18_ := Aside0.mk ((Below.heap_setCell _ ⟨g25, 5, none⟩ (.int .i64 ca) g18 (HN18_25.out)).trans ((Below.heap_setCell _ ⟨g25, 4, none⟩ (.int .i64 ra) g18 (HN18_25.out)).trans ((Below.heap_setCell _ ⟨g25, 3, none⟩ (.int .i64 pr) g18 (HN18_25.out)).trans ((Below.heap_setCell _ ⟨g25, 2, none⟩ (.bool true) g18 (HN18_25.out)).trans ((Below.heap_setCell _ ⟨g25, 1, none⟩ (.int .i64 0) g18 (HN18_25.out)).trans ((Below.heap_setCell _ ⟨g25, 0, none⟩ (.int .i64 5) g18 (HN18_25.out)).trans BK18.out))))))
    have m20_ := Aside0.mk ((Below.heap_setCell _ ⟨g25, 5, none⟩ (.int .i64 ca) g20 (HN20_25.out)).trans ((Below.heap_setCell _ ⟨g25, 4, none⟩ (.int .i64 ra) g20 (HN20_25.out)).trans ((Below.heap_setCell _ ⟨g25, 3, none⟩ (.int .i64 pr) g20 (HN20_25.out)).trans ((Below.heap_setCell _ ⟨g25, 2, none⟩ (.bool true) g20 (HN20_25.out)).trans ((Below.heap_setCell _ ⟨g25, 1, none⟩ (.int .i64 0) g20 (HN20_25.out)).trans ((Below.heap_setCell _ ⟨g25, 0, none⟩ (.int .i64 5) g20 (HN20_25.out)).trans BK20.out))))))
    have m22_ := Aside0.mk ((Below.heap_setCell _ ⟨g25, 5, none⟩ (.int .i64 ca) g22 (HN22_25.out)).trans ((Below.heap_setCell _ ⟨g25, 4, none⟩ (.int .i64 ra) g22 (HN22_25.out)).trans ((Below.heap_setCell _ ⟨g25, 3, none⟩ (.int .i64 pr) g22 (HN22_25.out)).trans ((Below.heap_setCell _ ⟨g25, 2, none⟩ (.bool true) g22 (HN22_25.out)).trans ((Below.heap_setCell _ ⟨g25, 1, none⟩ (.int .i64 0) g22 (HN22_25.out)).trans ((Below.heap_setCell _ ⟨g25, 0, none⟩ (.int .i64 5) g22 (HN22_25.out)).trans BK22.out))))))
    have m23_ := Aside0.mk ((Below.heap_setCell _ ⟨g25, 5, none⟩ (.int .i64 ca) g23 (HN23_25.out)).trans ((Below.heap_setCell _ ⟨g25, 4, none⟩ (.int .i64 ra) g23 (HN23_25.out)).trans ((Below.heap_setCell _ ⟨g25, 3, none⟩ (.int .i64 pr) g23 (HN23_25.out)).trans ((Below.heap_setCell _ ⟨g25, 2, none⟩ (.bool true) g23 (HN23_25.out)).trans ((Below.heap_setCell _ ⟨g25, 1, none⟩ (.int .i64 0) g23 (HN23_25.out)).trans ((Below.heap_setCell _ ⟨g25, 0, none⟩ (.int .i64 5) g23 (HN23_25.out)).trans BK23.out))))))
    clear HB BK16 BK17 BK18 BK20 BK22 BK23 BK25 c16_0 z16_0 c16_1 z16_1 c16_2 z16_2 c16_3 z16_3 c16_4 z16_4 c16_5 z16_5 c18_0 z18_0 c18_1 z18_1 c18_2 z18_2 c20_0 z20_0 c20_1 z20_1 c20_2 z20_2 c22_0 z22_0 c22_1 z22_1 c22_2 z22_2 c22_3 z22_3 c22_4 z22_4 c22_5 z22_5 c23_0 z23_0 c23_1 z23_1 c23_2 z23_2 c25_0 z25_0 c25_1 z25_1 c25_2 z25_2 c25_3 z25_3 c25_4 z25_4 c25_5 z25_5
    generalize ((((((w_.setCell ⟨g25, 0, none⟩ (.int .i64 5)).setCell ⟨g25, 1, none⟩ (.int .i64 0)).setCell ⟨g25, 2, none⟩ (.bool true)).setCell ⟨g25, 3, none⟩ (.int .i64 pr)).setCell ⟨g25, 4, none⟩ (.int .i64 ra)).setCell ⟨g25, 5, none⟩ (.int .i64 ca)) = v8 at n0_ m16_ m17_ m18_ m20_ m22_ m23_ m25_ ⊢
    have HB := n0_
    have BK16 : Aside0 (v8.heap[g16]? = some (.cells #[.int .i64 5, .int .i64 0, .bool true, .int .i64 pr, .int .i64 ra, .int .i64 ca] 25 (0, 0))) := ⟨m16_.out.trans rfl⟩
    have BK17 : Aside0 (v8.heap[g17]? = some (.cells #[.int .i64 1, .int .i64 4, .int .i64 2, .int .i64 3, .int .i64 0] 23 (0, 0))) := ⟨m17_.out.trans rfl⟩
    have BK18 : Aside0 (v8.heap[g18]? = some (.cells #[.int .i64 sw, .int .i64 sb, .int .i64 sv] 28 (0, 0))) := ⟨m18_.out.trans rfl⟩
    have BK20 : Aside0 (v8.heap[g20]? = some (.cells #[.int .i64 uw, .int .i64 ub, .int .i64 uv] 28 (0, 0))) := ⟨m20_.out.trans rfl⟩
    have BK22 : Aside0 (v8.heap[g22]? = some (.cells #[.int .i64 5, .int .i64 0, .bool true, .int .i64 pr, .int .i64 ra, .int .i64 cb] 25 (0, 0))) := ⟨m22_.out.trans rfl⟩
    have BK23 : Aside0 (v8.heap[g23]? = some (.cells #[.int .i64 xw, .int .i64 xb, .int .i64 xv] 28 (0, 0))) := ⟨m23_.out.trans rfl⟩
    have BK25 : Aside0 (v8.heap[g25]? = some (.cells #[.int .i64 5, .int .i64 0, .bool true, .int .i64 pr, .int .i64 ra, .int .i64 ca] 25 (0, 0))) := ⟨m25_.out.trans rfl⟩
    clear n0_ m16_ m17_ m18_ m20_ m22_ m23_ m25_
    clear da1 da2 da3 da4 db1 db2 db3 db4 dc1 dc2 dc3 dc4 dd1 dd2
    clear BK20 HG20 BK22 HG22 BK23 HG23
    have c25_0 : v8.cell? ⟨g25, 0, none⟩ = some (.int .i64 5) := (blk_cell BK25.out 0).trans rfl
    have z25_0 := blk_frozen BK25.out 0
    have c25_1 : v8.cell? ⟨g25, 1, none⟩ = some (.int .i64 0) := (blk_cell BK25.out 1).trans rfl
    have z25_1 := blk_frozen BK25.out 1
    have c25_2 : v8.cell? ⟨g25, 2, none⟩ = some (.bool true) := (blk_cell BK25.out 2).trans rfl
    have z25_2 := blk_frozen BK25.out 2
    have c25_3 : v8.cell? ⟨g25, 3, none⟩ = some (.int .i64 pr) := (blk_cell BK25.out 3).trans rfl
    have z25_3 := blk_frozen BK25.out 3
    have c25_4 : v8.cell? ⟨g25, 4, none⟩ = some (.int .i64 ra) := (blk_cell BK25.out 4).trans rfl
    have z25_4 := blk_frozen BK25.out 4
    have c25_5 : v8.cell? ⟨g25, 5, none⟩ = some (.int .i64 ca) := (blk_cell BK25.out 5).trans rfl
    have z25_5 := blk_frozen BK25.out 5
    go_upto_region 17 with fail
    have n0_ := Aside0.mk (HB.out.setCell (p := ⟨g25, 2, none⟩) HG25.out (.bool false))
    have m25_ := Aside0.mk (blk_put BK25.out 2 (.bool false) rfl)
    have m16_ := Aside0.mk ((Below.heap_setCell _ ⟨g25, 2, none⟩ (.bool false) g16 (HN16_25.out)).trans BK16.out)
    have m17_ := Aside0.mk ((Below.heap_setCell _ ⟨g25, 2, none⟩ (.bool false) g17 (HN17_25.out)).trans BK17.out)
    have m18_ := Aside0.mk ((Below.heap_setCell _ ⟨g25, 2, none⟩ (.bool false) g18 (HN18_25.out)).trans BK18.out)
    clear HB BK16 BK17 BK18 BK25 c25_0 z25_0 c25_1 z25_1 c25_2 z25_2 c25_3 z25_3 c25_4 z25_4 c25_5 z25_5
    generalize (v8.setCell ⟨g25, 2, none⟩ (.bool false)) = v9 at n0_ m16_ m17_ m18_ m25_ ⊢
    have HB := n0_
    have BK16 : Aside0 (v9.heap[g16]? = some (.cells #[.int .i64 5, .int .i64 0, .bool true, .int .i64 pr, .int .i64 ra, .int .i64 ca] 25 (0, 0))) := ⟨m16_.out.trans rfl⟩
    have BK17 : Aside0 (v9.heap[g17]? = some (.cells #[.int .i64 1, .int .i64 4, .int .i64 2, .int .i64 3, .int .i64 0] 23 (0, 0))) := ⟨m17_.out.trans rfl⟩
    have BK18 : Aside0 (v9.heap[g18]? = some (.cells #[.int .i64 sw, .int .i64 sb, .int .i64 sv] 28 (0, 0))) := ⟨m18_.out.trans rfl⟩
    have BK25 : Aside0 (v9.heap[g25]? = some (.cells #[.int .i64 5, .int .i64 0, .bool false, .int .i64 pr, .int .i64 ra, .int .i64 ca] 25 (0, 0))) := ⟨m25_.out.trans rfl⟩
    clear n0_ m16_ m17_ m18_ m25_
    have c16_0 : v9.cell? ⟨g16, 0, none⟩ = some (.int .i64 5) := (blk_cell BK16.out 0).trans rfl
    have z16_0 := blk_frozen BK16.out 0
    have c16_1 : v9.cell? ⟨g16, 1, none⟩ = some (.int .i64 0) := (blk_cell BK16.out 1).trans rfl
    have z16_1 := blk_frozen BK16.out 1
    have c16_2 : v9.cell? ⟨g16, 2, none⟩ = some (.bool true) := (blk_cell BK16.out 2).trans rfl
    have z16_2 := blk_frozen BK16.out 2
    have c16_3 : v9.cell? ⟨g16, 3, none⟩ = some (.int .i64 pr) := (blk_cell BK16.out 3).trans rfl
    have z16_3 := blk_frozen BK16.out 3
    have c16_4 : v9.cell? ⟨g16, 4, none⟩ = some (.int .i64 ra) := (blk_cell BK16.out 4).trans rfl
    have z16_4 := blk_frozen BK16.out 4
    have c16_5 : v9.cell? ⟨g16, 5, none⟩ = some (.int .i64 ca) := (blk_cell BK16.out 5).trans rfl
    have z16_5 := blk_frozen BK16.out 5
    go_upto_region 18 with (first
      | ((with_reducible refine gate_dst (N := 26) rfl ?_); refine box_event ?hg (N := 26) ?hd (cs := #[.int .i64 0, .int .i64 0, .bool false, .int .i64 0, .int .i64 0, .int .i64 0]) (t := 25) ?hr ?_; (case hd => rfl); (case hg => rfl); (case hr => first | (go_simp; done) | (go_simp; rfl)); intro g26 hg_ w_ hbox hb; have HN16_26 := Aside0.mk (show g16 ≠ g26 from by have := blk_lt BK16.out; omega); have HN17_26 := Aside0.mk (show g17 ≠ g26 from by have := blk_lt BK17.out; omega); have HN18_26 := Aside0.mk (show g18 ≠ g26 from by have := blk_lt BK18.out; omega); have HN25_26 := Aside0.mk (show g25 ≠ g26 from by have := blk_lt BK25.out; omega); have HG26 := Aside0.mk (show w.heap.size ≤ g26 from Nat.le_trans (below_size HB.out) (Nat.le_of_eq hg_.symm)); have n_ := Aside0.mk (below_step HB.out hb); clear HB; have HB := n_; clear n_; have n_ := Aside0.mk (blk_below BK16.out hb); (try clear c16_0 z16_0 c16_1 z16_1 c16_2 z16_2 c16_3 z16_3 c16_4 z16_4 c16_5 z16_5); clear BK16; have BK16 := n_; clear n_; have n_ := Aside0.mk (blk_below BK17.out hb); (try clear c17_0); clear BK17; have BK17 := n_; clear n_; have n_ := Aside0.mk (blk_below BK18.out hb); (try clear c18_0); clear BK18; have BK18 := n_; clear n_; have n_ := Aside0.mk (blk_below BK25.out hb); (try clear c25_0); clear BK25; have BK25 := n_; clear n_; have c16_0 : w_.cell? ⟨g16, 0, none⟩ = some (.int .i64 5) := (blk_cell BK16.out 0).trans rfl; have z16_0 := blk_frozen BK16.out 0; have c16_1 : w_.cell? ⟨g16, 1, none⟩ = some (.int .i64 0) := (blk_cell BK16.out 1).trans rfl; have z16_1 := blk_frozen BK16.out 1; have c16_2 : w_.cell? ⟨g16, 2, none⟩ = some (.bool true) := (blk_cell BK16.out 2).trans rfl; have z16_2 := blk_frozen BK16.out 2; have c16_3 : w_.cell? ⟨g16, 3, none⟩ = some (.int .i64 pr) := (blk_cell BK16.out 3).trans rfl; have z16_3 := blk_frozen BK16.out 3; have c16_4 : w_.cell? ⟨g16, 4, none⟩ = some (.int .i64 ra) := (blk_cell BK16.out 4).trans rfl; have z16_4 := blk_frozen BK16.out 4; have c16_5 : w_.cell? ⟨g16, 5, none⟩ = some (.int .i64 ca) := (blk_cell BK16.out 5).trans rfl; have z16_5 := blk_frozen BK16.out 5; have BK26 := Aside0.mk hbox; clear hb hbox hg_; have c26_0 : w_.cell? ⟨g26, 0, none⟩ = some (.int .i64 0) := (blk_cell BK26.out 0).trans rfl; have z26_0 := blk_frozen BK26.out 0; have c26_1 : w_.cell? ⟨g26, 1, none⟩ = some (.int .i64 0) := (blk_cell BK26.out 1).trans rfl; have z26_1 := blk_frozen BK26.out 1; have c26_2 : w_.cell? ⟨g26, 2, none⟩ = some (.bool false) := (blk_cell BK26.out 2).trans rfl; have z26_2 := blk_frozen BK26.out 2; have c26_3 : w_.cell? ⟨g26, 3, none⟩ = some (.int .i64 0) := (blk_cell BK26.out 3).trans rfl; have z26_3 := blk_frozen BK26.out 3; have c26_4 : w_.cell? ⟨g26, 4, none⟩ = some (.int .i64 0) := (blk_cell BK26.out 4).trans rfl; have z26_4 := blk_frozen BK26.out 4; have c26_5 : w_.cell? ⟨g26, 5, none⟩ = some (.int .i64 0) := (blk_cell BK26.out 5).trans rfl; have z26_5 := blk_frozen BK26.out 5))
    have n0_ := Aside0.mk ((((((HB.out.setCell (p := ⟨g26, 0, none⟩) HG26.out (.int .i64 5)).setCell (p := ⟨g26, 1, none⟩) HG26.out (.int .i64 0)).setCell (p := ⟨g26, 2, none⟩) HG26.out (.bool true)).setCell (p := ⟨g26, 3, none⟩) HG26.out (.int .i64 pr)).setCell (p := ⟨g26, 4, none⟩) HG26.out (.int .i64 ra)).setCell (p := ⟨g26, 5, none⟩) HG26.out (.int .i64 ca))
    have m26_ := Aside0.mk (blk_put (blk_put (blk_put (blk_put (blk_put (blk_put BK26.out 0 (.int .i64 5) rfl) 1 (.int .i64 0) rfl) 2 (.bool true) rfl) 3 (.int .i64 pr) rfl) 4 (.int .i64 ra) rfl) 5 (.int .i64 ca) rfl)
    have m16_ := Aside0.mk ((Below.heap_setCell _ ⟨g26, 5, none⟩ (.int .i64 ca) g16 (HN16_26.out)).trans ((Below.heap_setCell _ ⟨g26, 4, none⟩ (.int .i64 ra) g16 (HN16_26.out)).trans ((Below.heap_setCell _ ⟨g26, 3, none⟩ (.int .i64 pr) g16 (HN16_26.out)).trans ((Below.heap_setCell _ ⟨g26, 2, none⟩ (.bool true) g16 (HN16_26.out)).trans ((Below.heap_setCell _ ⟨g26, 1, none⟩ (.int .i64 0) g16 (HN16_26.out)).trans ((Below.heap_setCell _ ⟨g26, 0, none⟩ (.int .i64 5) g16 (HN16_26.out)).trans BK16.out))))))
    have m17_ := Aside0.mk ((Below.heap_setCell _ ⟨g26, 5, none⟩ (.int .i64 ca) g17 (HN17_26.out)).trans ((Below.heap_setCell _ ⟨g26, 4, none⟩ (.int .i64 ra) g17 (HN17_26.out)).trans ((Below.heap_setCell _ ⟨g26, 3, none⟩ (.int .i64 pr) g17 (HN17_26.out)).trans ((Below.heap_setCell _ ⟨g26, 2, none⟩ (.bool true) g17 (HN17_26.out)).trans ((Below.heap_setCell _ ⟨g26, 1, none⟩ (.int .i64 0) g17 (HN17_26.out)).trans ((Below.heap_setCell _ ⟨g26, 0, none⟩ (.int .i64 5) g17 (HN17_26.out)).trans BK17.out))))))
    have m18_ := Aside0.mk ((Below.heap_setCell _ ⟨g26, 5, none⟩ (.int .i64 ca) g18 (HN18_26.out)).trans ((Below.heap_setCell _ ⟨g26, 4, none⟩ (.int .i64 ra) g18 (HN18_26.out)).trans ((Below.heap_setCell _ ⟨g26, 3, none⟩ (.int .i64 pr) g18 (HN18_26.out)).trans ((Below.heap_setCell _ ⟨g26, 2, none⟩ (.bool true) g18 (HN18_26.out)).trans ((Below.heap_setCell _ ⟨g26, 1, none⟩ (.int .i64 0) g18 (HN18_26.out)).trans ((Below.heap_setCell _ ⟨g26, 0, none⟩ (.int .i64 5) g18 (HN18_26.out)).trans BK18.out))))))
    have m25_ := Aside0.mk ((Below.heap_setCell _ ⟨g26, 5, none⟩ (.int .i64 ca) g25 (HN25_26.out)).trans ((Below.heap_setCell _ ⟨g26, 4, none⟩ (.int .i64 ra) g25 (HN25_26.out)).trans ((Below.heap_setCell _ ⟨g26, 3, none⟩ (.int .i64 pr) g25 (HN25_26.out)).trans ((Below.heap_setCell _ ⟨g26, 2, none⟩ (.bool true) g25 (HN25_26.out)).trans ((Below.heap_setCell _ ⟨g26, 1, none⟩ (.int .i64 0) g25 (HN25_26.out)).trans ((Below.heap_setCell _ ⟨g26, 0, none⟩ (.int .i64 5) g25 (HN25_26.out)).trans BK25.out))))))
    clear HB BK16 BK17 BK18 BK25 BK26 c16_0 z16_0 c16_1 z16_1 c16_2 z16_2 c16_3 z16_3 c16_4 z16_4 c16_5 z16_5 c26_0 z26_0 c26_1 z26_1 c26_2 z26_2 c26_3 z26_3 c26_4 z26_4 c26_5 z26_5
    generalize ((((((w_.setCell ⟨g26, 0, none⟩ (.int .i64 5)).setCell ⟨g26, 1, none⟩ (.int .i64 0)).setCell ⟨g26, 2, none⟩ (.bool true)).setCell ⟨g26, 3, none⟩ (.int .i64 pr)).setCell ⟨g26, 4, none⟩ (.int .i64 ra)).setCell ⟨g26, 5, none⟩ (.int .i64 ca)) = v10 at n0_ m16_ m17_ m18_ m25_ m26_ ⊢
    have HB := n0_
    have BK16 : Aside0 (v10.heap[g16]? = some (.cells #[.int .i64 5, .int .i64 0, .bool true, .int .i64 pr, .int .i64 ra, .int .i64 ca] 25 (0, 0))) := ⟨m16_.out.trans rfl⟩
    have BK17 : Aside0 (v10.heap[g17]? = some (.cells #[.int .i64 1, .int .i64 4, .int .i64 2, .int .i64 3, .int .i64 0] 23 (0, 0))) := ⟨m17_.out.trans rfl⟩
    have BK18 : Aside0 (v10.heap[g18]? = some (.cells #[.int .i64 sw, .int .i64 sb, .int .i64 sv] 28 (0, 0))) := ⟨m18_.out.trans rfl⟩
    have BK25 : Aside0 (v10.heap[g25]? = some (.cells #[.int .i64 5, .int .i64 0, .bool false, .int .i64 pr, .int .i64 ra, .int .i64 ca] 25 (0, 0))) := ⟨m25_.out.trans rfl⟩
    have BK26 : Aside0 (v10.heap[g26]? = some (.cells #[.int .i64 5, .int .i64 0, .bool true, .int .i64 pr, .int .i64 ra, .int .i64 ca] 25 (0, 0))) := ⟨m26_.out.trans rfl⟩
    clear n0_ m16_ m17_ m18_ m25_ m26_
    have c26_0 : v10.cell? ⟨g26, 0, none⟩ = some (.int .i64 5) := (blk_cell BK26.out 0).trans rfl
    have z26_0 := blk_frozen BK26.out 0
    have c26_1 : v10.cell? ⟨g26, 1, none⟩ = some (.int .i64 0) := (blk_cell BK26.out 1).trans rfl
    have z26_1 := blk_frozen BK26.out 1
    have c26_2 : v10.cell? ⟨g26, 2, none⟩ = some (.bool true) := (blk_cell BK26.out 2).trans rfl
    have z26_2 := blk_frozen BK26.out 2
    have c26_3 : v10.cell? ⟨g26, 3, none⟩ = some (.int .i64 pr) := (blk_cell BK26.out 3).trans rfl
    have z26_3 := blk_frozen BK26.out 3
    have c26_4 : v10.cell? ⟨g26, 4, none⟩ = some (.int .i64 ra) := (blk_cell BK26.out 4).trans rfl
    have z26_4 := blk_frozen BK26.out 4
    have c26_5 : v10.cell? ⟨g26, 5, none⟩ = some (.int .i64 ca) := (blk_cell BK26.out 5).trans rfl
    have z26_5 := blk_frozen BK26.out 5
    go_upto_region 19 with fail
    have n0_ := Aside0.mk (HB.out.setCell (p := ⟨g26, 1, none⟩) HG26.out (.int .i64 4))
    have m26_ := Aside0.mk (blk_put BK26.out 1 (.int .i64 4) rfl)
    have m16_ := Aside0.mk ((Below.heap_setCell _ ⟨g26, 1, none⟩ (.int .i64 4) g16 (HN16_26.out)).trans BK16.out)
    have m17_ := Aside0.mk ((Below.heap_setCell _ ⟨g26, 1, none⟩ (.int .i64 4) g17 (HN17_26.out)).trans BK17.out)
    have m18_ := Aside0.mk ((Below.heap_setCell _ ⟨g26, 1, none⟩ (.int .i64 4) g18 (HN18_26.out)).trans BK18.out)
    have m25_ := Aside0.mk ((Below.heap_setCell _ ⟨g26, 1, none⟩ (.int .i64 4) g25 (HN25_26.out)).trans BK25.out)
    clear HB BK16 BK17 BK18 BK25 BK26 c26_0 z26_0 c26_1 z26_1 c26_2 z26_2 c26_3 z26_3 c26_4 z26_4 c26_5 z26_5
    generalize (v10.setCell ⟨g26, 1, none⟩ (.int .i64 4)) = v11 at n0_ m16_ m17_ m18_ m25_ m26_ ⊢
    have HB := n0_
    have BK16 : Aside0 (v11.heap[g16]? = some (.cells #[.int .i64 5, .int .i64 0, .bool true, .int .i64 pr, .int .i64 ra, .int .i64 ca] 25 (0, 0))) := ⟨m16_.out.trans rfl⟩
    have BK17 : Aside0 (v11.heap[g17]? = some (.cells #[.int .i64 1, .int .i64 4, .int .i64 2, .int .i64 3, .int .i64 0] 23 (0, 0))) := ⟨m17_.out.trans rfl⟩
    have BK18 : Aside0 (v11.heap[g18]? = some (.cells #[.int .i64 sw, .int .i64 sb, .int .i64 sv] 28 (0, 0))) := ⟨m18_.out.trans rfl⟩
    have BK25 : Aside0 (v11.heap[g25]? = some (.cells #[.int .i64 5, .int .i64 0, .bool false, .int .i64 pr, .int .i64 ra, .int .i64 ca] 25 (0, 0))) := ⟨m25_.out.trans rfl⟩
    have BK26 : Aside0 (v11.heap[g26]? = some (.cells #[.int .i64 5, .int .i64 4, .bool true, .int .i64 pr, .int .i64 ra, .int .i64 ca] 25 (0, 0))) := ⟨m26_.out.trans rfl⟩
    clear n0_ m16_ m17_ m18_ m25_ m26_
    have c17_0 : v11.cell? ⟨g17, 0, none⟩ = some (.int .i64 1) := (blk_cell BK17.out 0).trans rfl
    have z17_0 := blk_frozen BK17.out 0
    have c17_1 : v11.cell? ⟨g17, 1, none⟩ = some (.int .i64 4) := (blk_cell BK17.out 1).trans rfl
    have z17_1 := blk_frozen BK17.out 1
    have c17_2 : v11.cell? ⟨g17, 2, none⟩ = some (.int .i64 2) := (blk_cell BK17.out 2).trans rfl
    have z17_2 := blk_frozen BK17.out 2
    have c17_3 : v11.cell? ⟨g17, 3, none⟩ = some (.int .i64 3) := (blk_cell BK17.out 3).trans rfl
    have z17_3 := blk_frozen BK17.out 3
    have c17_4 : v11.cell? ⟨g17, 4, none⟩ = some (.int .i64 0) := (blk_cell BK17.out 4).trans rfl
    have z17_4 := blk_frozen BK17.out 4
    go_upto_region 20 with (first
      | ((with_reducible refine gate_dst (N := 27) rfl ?_); refine box_event ?hg (N := 27) ?hd (cs := #[.int .i64 0, .int .i64 0, .int .i64 0, .int .i64 0, .int .i64 0]) (t := 23) ?hr ?_; (case hd => rfl); (case hg => rfl); (case hr => first | (go_simp; done) | (go_simp; rfl)); intro g27 hg_ w_ hbox hb; have HN16_27 := Aside0.mk (show g16 ≠ g27 from by have := blk_lt BK16.out; omega); have HN17_27 := Aside0.mk (show g17 ≠ g27 from by have := blk_lt BK17.out; omega); have HN18_27 := Aside0.mk (show g18 ≠ g27 from by have := blk_lt BK18.out; omega); have HN25_27 := Aside0.mk (show g25 ≠ g27 from by have := blk_lt BK25.out; omega); have HN26_27 := Aside0.mk (show g26 ≠ g27 from by have := blk_lt BK26.out; omega); have HG27 := Aside0.mk (show w.heap.size ≤ g27 from Nat.le_trans (below_size HB.out) (Nat.le_of_eq hg_.symm)); have n_ := Aside0.mk (below_step HB.out hb); clear HB; have HB := n_; clear n_; have n_ := Aside0.mk (blk_below BK16.out hb); (try clear c16_0); clear BK16; have BK16 := n_; clear n_; have n_ := Aside0.mk (blk_below BK17.out hb); (try clear c17_0 z17_0 c17_1 z17_1 c17_2 z17_2 c17_3 z17_3 c17_4 z17_4); clear BK17; have BK17 := n_; clear n_; have n_ := Aside0.mk (blk_below BK18.out hb); (try clear c18_0); clear BK18; have BK18 := n_; clear n_; have n_ := Aside0.mk (blk_below BK25.out hb); (try clear c25_0); clear BK25; have BK25 := n_; clear n_; have n_ := Aside0.mk (blk_below BK26.out hb); (try clear c26_0); clear BK26; have BK26 := n_; clear n_; have c17_0 : w_.cell? ⟨g17, 0, none⟩ = some (.int .i64 1) := (blk_cell BK17.out 0).trans rfl; have z17_0 := blk_frozen BK17.out 0; have c17_1 : w_.cell? ⟨g17, 1, none⟩ = some (.int .i64 4) := (blk_cell BK17.out 1).trans rfl; have z17_1 := blk_frozen BK17.out 1; have c17_2 : w_.cell? ⟨g17, 2, none⟩ = some (.int .i64 2) := (blk_cell BK17.out 2).trans rfl; have z17_2 := blk_frozen BK17.out 2; have c17_3 : w_.cell? ⟨g17, 3, none⟩ = some (.int .i64 3) := (blk_cell BK17.out 3).trans rfl; have z17_3 := blk_frozen BK17.out 3; have c17_4 : w_.cell? ⟨g17, 4, none⟩ = some (.int .i64 0) := (blk_cell BK17.out 4).trans rfl; have z17_4 := blk_frozen BK17.out 4; have BK27 := Aside0.mk hbox; clear hb hbox hg_; have c27_0 : w_.cell? ⟨g27, 0, none⟩ = some (.int .i64 0) := (blk_cell BK27.out 0).trans rfl; have z27_0 := blk_frozen BK27.out 0; have c27_1 : w_.cell? ⟨g27, 1, none⟩ = some (.int .i64 0) := (blk_cell BK27.out 1).trans rfl; have z27_1 := blk_frozen BK27.out 1; have c27_2 : w_.cell? ⟨g27, 2, none⟩ = some (.int .i64 0) := (blk_cell BK27.out 2).trans rfl; have z27_2 := blk_frozen BK27.out 2; have c27_3 : w_.cell? ⟨g27, 3, none⟩ = some (.int .i64 0) := (blk_cell BK27.out 3).trans rfl; have z27_3 := blk_frozen BK27.out 3; have c27_4 : w_.cell? ⟨g27, 4, none⟩ = some (.int .i64 0) := (blk_cell BK27.out 4).trans rfl; have z27_4 := blk_frozen BK27.out 4))
    have n0_ := Aside0.mk (((((HB.out.setCell (p := ⟨g27, 0, none⟩) HG27.out (.int .i64 1)).setCell (p := ⟨g27, 1, none⟩) HG27.out (.int .i64 4)).setCell (p := ⟨g27, 2, none⟩) HG27.out (.int .i64 2)).setCell (p := ⟨g27, 3, none⟩) HG27.out (.int .i64 3)).setCell (p := ⟨g27, 4, none⟩) HG27.out (.int .i64 0))
    have m27_ := Aside0.mk (blk_put (blk_put (blk_put (blk_put (blk_put BK27.out 0 (.int .i64 1) rfl) 1 (.int .i64 4) rfl) 2 (.int .i64 2) rfl) 3 (.int .i64 3) rfl) 4 (.int .i64 0) rfl)
    have m16_ := Aside0.mk ((Below.heap_setCell _ ⟨g27, 4, none⟩ (.int .i64 0) g16 (HN16_27.out)).trans ((Below.heap_setCell _ ⟨g27, 3, none⟩ (.int .i64 3) g16 (HN16_27.out)).trans ((Below.heap_setCell _ ⟨g27, 2, none⟩ (.int .i64 2) g16 (HN16_27.out)).trans ((Below.heap_setCell _ ⟨g27, 1, none⟩ (.int .i64 4) g16 (HN16_27.out)).trans ((Below.heap_setCell _ ⟨g27, 0, none⟩ (.int .i64 1) g16 (HN16_27.out)).trans BK16.out)))))
    have m17_ := Aside0.mk ((Below.heap_setCell _ ⟨g27, 4, none⟩ (.int .i64 0) g17 (HN17_27.out)).trans ((Below.heap_setCell _ ⟨g27, 3, none⟩ (.int .i64 3) g17 (HN17_27.out)).trans ((Below.heap_setCell _ ⟨g27, 2, none⟩ (.int .i64 2) g17 (HN17_27.out)).trans ((Below.heap_setCell _ ⟨g27, 1, none⟩ (.int .i64 4) g17 (HN17_27.out)).trans ((Below.heap_setCell _ ⟨g27, 0, none⟩ (.int .i64 1) g17 (HN17_27.out)).trans BK17.out)))))
    have m18_ := Aside0.mk ((Below.heap_setCell _ ⟨g27, 4, none⟩ (.int .i64 0) g18 (HN18_27.out)).trans ((Below.heap_setCell _ ⟨g27, 3, none⟩ (.int .i64 3) g18 (HN18_27.out)).trans ((Below.heap_setCell _ ⟨g27, 2, none⟩ (.int .i64 2) g18 (HN18_27.out)).trans ((Below.heap_setCell _ ⟨g27, 1, none⟩ (.int .i64 4) g18 (HN18_27.out)).trans ((Below.heap_setCell _ ⟨g27, 0, none⟩ (.int .i64 1) g18 (HN18_27.out)).trans BK18.out)))))
    have m25_ := Aside0.mk ((Below.heap_setCell _ ⟨g27, 4, none⟩ (.int .i64 0) g25 (HN25_27.out)).trans ((Below.heap_setCell _ ⟨g27, 3, none⟩ (.int .i64 3) g25 (HN25_27.out)).trans ((Below.heap_setCell _ ⟨g27, 2, none⟩ (.int .i64 2) g25 (HN25_27.out)).trans ((Below.heap_setCell _ ⟨g27, 1, none⟩ (.int .i64 4) g25 (HN25_27.out)).trans ((Below.heap_setCell _ ⟨g27, 0, none⟩ (.int .i64 1) g25 (HN25_27.out)).trans BK25.out)))))
    have m26_ := Aside0.mk ((Below.heap_setCell _ ⟨g27, 4, none⟩ (.int .i64 0) g26 (HN26_27.out)).trans ((Below.heap_setCell _ ⟨g27, 3, none⟩ (.int .i64 3) g26 (HN26_27.out)).trans ((Below.heap_setCell _ ⟨g27, 2, none⟩ (.int .i64 2) g26 (HN26_27.out)).trans ((Below.heap_setCell _ ⟨g27, 1, none⟩ (.int .i64 4) g26 (HN26_27.out)).trans ((Below.heap_setCell _ ⟨g27, 0, none⟩ (.int .i64 1) g26 (HN26_27.out)).trans BK26.out)))))
    clear HB BK16 BK17 BK18 BK25 BK26 BK27 c17_0 z17_0 c17_1 z17_1 c17_2 z17_2 c17_3 z17_3 c17_4 z17_4 c27_0 z27_0 c27_1 z27_1 c27_2 z27_2 c27_3 z27_3 c27_4 z27_4
    generalize (((((w_.setCell ⟨g27, 0, none⟩ (.int .i64 1)).setCell ⟨g27, 1, none⟩ (.int .i64 4)).setCell ⟨g27, 2, none⟩ (.int .i64 2)).setCell ⟨g27, 3, none⟩ (.int .i64 3)).setCell ⟨g27, 4, none⟩ (.int .i64 0)) = v12 at n0_ m16_ m17_ m18_ m25_ m26_ m27_ ⊢
    have HB := n0_
    have BK16 : Aside0 (v12.heap[g16]? = some (.cells #[.int .i64 5, .int .i64 0, .bool true, .int .i64 pr, .int .i64 ra, .int .i64 ca] 25 (0, 0))) := ⟨m16_.out.trans rfl⟩
    have BK17 : Aside0 (v12.heap[g17]? = some (.cells #[.int .i64 1, .int .i64 4, .int .i64 2, .int .i64 3, .int .i64 0] 23 (0, 0))) := ⟨m17_.out.trans rfl⟩
    have BK18 : Aside0 (v12.heap[g18]? = some (.cells #[.int .i64 sw, .int .i64 sb, .int .i64 sv] 28 (0, 0))) := ⟨m18_.out.trans rfl⟩
    have BK25 : Aside0 (v12.heap[g25]? = some (.cells #[.int .i64 5, .int .i64 0, .bool false, .int .i64 pr, .int .i64 ra, .int .i64 ca] 25 (0, 0))) := ⟨m25_.out.trans rfl⟩
    have BK26 : Aside0 (v12.heap[g26]? = some (.cells #[.int .i64 5, .int .i64 4, .bool true, .int .i64 pr, .int .i64 ra, .int .i64 ca] 25 (0, 0))) := ⟨m26_.out.trans rfl⟩
    have BK27 : Aside0 (v12.heap[g27]? = some (.cells #[.int .i64 1, .int .i64 4, .int .i64 2, .int .i64 3, .int .i64 0] 23 (0, 0))) := ⟨m27_.out.trans rfl⟩
    clear n0_ m16_ m17_ m18_ m25_ m26_ m27_
    have c27_0 : v12.cell? ⟨g27, 0, none⟩ = some (.int .i64 1) := (blk_cell BK27.out 0).trans rfl
    have z27_0 := blk_frozen BK27.out 0
    have c27_1 : v12.cell? ⟨g27, 1, none⟩ = some (.int .i64 4) := (blk_cell BK27.out 1).trans rfl
    have z27_1 := blk_frozen BK27.out 1
    have c27_2 : v12.cell? ⟨g27, 2, none⟩ = some (.int .i64 2) := (blk_cell BK27.out 2).trans rfl
    have z27_2 := blk_frozen BK27.out 2
    have c27_3 : v12.cell? ⟨g27, 3, none⟩ = some (.int .i64 3) := (blk_cell BK27.out 3).trans rfl
    have z27_3 := blk_frozen BK27.out 3
    have c27_4 : v12.cell? ⟨g27, 4, none⟩ = some (.int .i64 0) := (blk_cell BK27.out 4).trans rfl
    have z27_4 := blk_frozen BK27.out 4
    go_upto_region 21 with fail
    have n0_ := Aside0.mk (HB.out.setCell (p := ⟨g27, 4, none⟩) HG27.out (.int .i64 5))
    have m27_ := Aside0.mk (blk_put BK27.out 4 (.int .i64 5) rfl)
    have m16_ := Aside0.mk ((Below.heap_setCell _ ⟨g27, 4, none⟩ (.int .i64 5) g16 (HN16_27.out)).trans BK16.out)
    have m17_ := Aside0.mk ((Below.heap_setCell _ ⟨g27, 4, none⟩ (.int .i64 5) g17 (HN17_27.out)).trans BK17.out)
    have m18_ := Aside0.mk ((Below.heap_setCell _ ⟨g27, 4, none⟩ (.int .i64 5) g18 (HN18_27.out)).trans BK18.out)
    have m25_ := Aside0.mk ((Below.heap_setCell _ ⟨g27, 4, none⟩ (.int .i64 5) g25 (HN25_27.out)).trans BK25.out)
    have m26_ := Aside0.mk ((Below.heap_setCell _ ⟨g27, 4, none⟩ (.int .i64 5) g26 (HN26_27.out)).trans BK26.out)
    clear HB BK16 BK17 BK18 BK25 BK26 BK27 c27_0 z27_0 c27_1 z27_1 c27_2 z27_2 c27_3 z27_3 c27_4 z27_4
    generalize (v12.setCell ⟨g27, 4, none⟩ (.int .i64 5)) = v13 at n0_ m16_ m17_ m18_ m25_ m26_ m27_ ⊢
    have HB := n0_
    have BK16 : Aside0 (v13.heap[g16]? = some (.cells #[.int .i64 5, .int .i64 0, .bool true, .int .i64 pr, .int .i64 ra, .int .i64 ca] 25 (0, 0))) := ⟨m16_.out.trans rfl⟩
    have BK17 : Aside0 (v13.heap[g17]? = some (.cells #[.int .i64 1, .int .i64 4, .int .i64 2, .int .i64 3, .int .i64 0] 23 (0, 0))) := ⟨m17_.out.trans rfl⟩
    have BK18 : Aside0 (v13.heap[g18]? = some (.cells #[.int .i64 sw, .int .i64 sb, .int .i64 sv] 28 (0, 0))) := ⟨m18_.out.trans rfl⟩
    have BK25 : Aside0 (v13.heap[g25]? = some (.cells #[.int .i64 5, .int .i64 0, .bool false, .int .i64 pr, .int .i64 ra, .int .i64 ca] 25 (0, 0))) := ⟨m25_.out.trans rfl⟩
    have BK26 : Aside0 (v13.heap[g26]? = some (.cells #[.int .i64 5, .int .i64 4, .bool true, .int .i64 pr, .int .i64 ra, .int .i64 ca] 25 (0, 0))) := ⟨m26_.out.trans rfl⟩
    have BK27 : Aside0 (v13.heap[g27]? = some (.cells #[.int .i64 1, .int .i64 4, .int .i64 2, .int .i64 3, .int .i64 5] 23 (0, 0))) := ⟨m27_.out.trans rfl⟩
    clear n0_ m16_ m17_ m18_ m25_ m26_ m27_
    have c17_0 : v13.cell? ⟨g17, 0, none⟩ = some (.int .i64 1) := (blk_cell BK17.out 0).trans rfl
    have z17_0 := blk_frozen BK17.out 0
    have c17_1 : v13.cell? ⟨g17, 1, none⟩ = some (.int .i64 4) := (blk_cell BK17.out 1).trans rfl
    have z17_1 := blk_frozen BK17.out 1
    have c17_2 : v13.cell? ⟨g17, 2, none⟩ = some (.int .i64 2) := (blk_cell BK17.out 2).trans rfl
    have z17_2 := blk_frozen BK17.out 2
    have c17_3 : v13.cell? ⟨g17, 3, none⟩ = some (.int .i64 3) := (blk_cell BK17.out 3).trans rfl
    have z17_3 := blk_frozen BK17.out 3
    have c17_4 : v13.cell? ⟨g17, 4, none⟩ = some (.int .i64 0) := (blk_cell BK17.out 4).trans rfl
    have z17_4 := blk_frozen BK17.out 4
    have c25_0 : v13.cell? ⟨g25, 0, none⟩ = some (.int .i64 5) := (blk_cell BK25.out 0).trans rfl
    have z25_0 := blk_frozen BK25.out 0
    have c25_1 : v13.cell? ⟨g25, 1, none⟩ = some (.int .i64 0) := (blk_cell BK25.out 1).trans rfl
    have z25_1 := blk_frozen BK25.out 1
    have c25_2 : v13.cell? ⟨g25, 2, none⟩ = some (.bool false) := (blk_cell BK25.out 2).trans rfl
    have z25_2 := blk_frozen BK25.out 2
    have c25_3 : v13.cell? ⟨g25, 3, none⟩ = some (.int .i64 pr) := (blk_cell BK25.out 3).trans rfl
    have z25_3 := blk_frozen BK25.out 3
    have c25_4 : v13.cell? ⟨g25, 4, none⟩ = some (.int .i64 ra) := (blk_cell BK25.out 4).trans rfl
    have z25_4 := blk_frozen BK25.out 4
    have c25_5 : v13.cell? ⟨g25, 5, none⟩ = some (.int .i64 ca) := (blk_cell BK25.out 5).trans rfl
    have z25_5 := blk_frozen BK25.out 5
    go_upto_region 22 with (first
      | (go_at_call 8; have hN := value_Of.calls vF 1 4 2 3 0 q 5 0 false pr ra ca nw nb nv ne _ (HG.out.below HB.out) HN.out; (with_reducible refine hN.mono ?_); clear hN; rintro e_ w_ ⟨rfl, hb⟩; have n_ := Aside0.mk (below_step HB.out hb); clear HB; have HB := n_; clear n_; have n_ := Aside0.mk (blk_below BK16.out hb); (try clear c16_0); clear BK16; have BK16 := n_; clear n_; have n_ := Aside0.mk (blk_below BK17.out hb); (try clear c17_0 z17_0 c17_1 z17_1 c17_2 z17_2 c17_3 z17_3 c17_4 z17_4); clear BK17; have BK17 := n_; clear n_; have n_ := Aside0.mk (blk_below BK18.out hb); (try clear c18_0); clear BK18; have BK18 := n_; clear n_; have n_ := Aside0.mk (blk_below BK25.out hb); (try clear c25_0 z25_0 c25_1 z25_1 c25_2 z25_2 c25_3 z25_3 c25_4 z25_4 c25_5 z25_5); clear BK25; have BK25 := n_; clear n_; have n_ := Aside0.mk (blk_below BK26.out hb); (try clear c26_0); clear BK26; have BK26 := n_; clear n_; have n_ := Aside0.mk (blk_below BK27.out hb); (try clear c27_0); clear BK27; have BK27 := n_; clear n_; have c17_0 : w_.cell? ⟨g17, 0, none⟩ = some (.int .i64 1) := (blk_cell BK17.out 0).trans rfl; have z17_0 := blk_frozen BK17.out 0; have c17_1 : w_.cell? ⟨g17, 1, none⟩ = some (.int .i64 4) := (blk_cell BK17.out 1).trans rfl; have z17_1 := blk_frozen BK17.out 1; have c17_2 : w_.cell? ⟨g17, 2, none⟩ = some (.int .i64 2) := (blk_cell BK17.out 2).trans rfl; have z17_2 := blk_frozen BK17.out 2; have c17_3 : w_.cell? ⟨g17, 3, none⟩ = some (.int .i64 3) := (blk_cell BK17.out 3).trans rfl; have z17_3 := blk_frozen BK17.out 3; have c17_4 : w_.cell? ⟨g17, 4, none⟩ = some (.int .i64 0) := (blk_cell BK17.out 4).trans rfl; have z17_4 := blk_frozen BK17.out 4; have c25_0 : w_.cell? ⟨g25, 0, none⟩ = some (.int .i64 5) := (blk_cell BK25.out 0).trans rfl; have z25_0 := blk_frozen BK25.out 0; have c25_1 : w_.cell? ⟨g25, 1, none⟩ = some (.int .i64 0) := (blk_cell BK25.out 1).trans rfl; have z25_1 := blk_frozen BK25.out 1; have c25_2 : w_.cell? ⟨g25, 2, none⟩ = some (.bool false) := (blk_cell BK25.out 2).trans rfl; have z25_2 := blk_frozen BK25.out 2; have c25_3 : w_.cell? ⟨g25, 3, none⟩ = some (.int .i64 pr) := (blk_cell BK25.out 3).trans rfl; have z25_3 := blk_frozen BK25.out 3; have c25_4 : w_.cell? ⟨g25, 4, none⟩ = some (.int .i64 ra) := (blk_cell BK25.out 4).trans rfl; have z25_4 := blk_frozen BK25.out 4; have c25_5 : w_.cell? ⟨g25, 5, none⟩ = some (.int .i64 ca) := (blk_cell BK25.out 5).trans rfl; have z25_5 := blk_frozen BK25.out 5; clear hb)
      | ((with_reducible refine gate_dst (N := 28) rfl ?_); refine box_event ?hg (N := 28) ?hd (cs := #[.int .i64 0, .int .i64 0, .int .i64 0]) (t := 28) ?hr ?_; (case hd => rfl); (case hg => rfl); (case hr => first | (go_simp; done) | (go_simp; rfl)); intro g28 hg_ w_ hbox hb; have HN16_28 := Aside0.mk (show g16 ≠ g28 from by have := blk_lt BK16.out; omega); have HN17_28 := Aside0.mk (show g17 ≠ g28 from by have := blk_lt BK17.out; omega); have HN18_28 := Aside0.mk (show g18 ≠ g28 from by have := blk_lt BK18.out; omega); have HN25_28 := Aside0.mk (show g25 ≠ g28 from by have := blk_lt BK25.out; omega); have HN26_28 := Aside0.mk (show g26 ≠ g28 from by have := blk_lt BK26.out; omega); have HN27_28 := Aside0.mk (show g27 ≠ g28 from by have := blk_lt BK27.out; omega); have HG28 := Aside0.mk (show w.heap.size ≤ g28 from Nat.le_trans (below_size HB.out) (Nat.le_of_eq hg_.symm)); have n_ := Aside0.mk (below_step HB.out hb); clear HB; have HB := n_; clear n_; have n_ := Aside0.mk (blk_below BK16.out hb); (try clear c16_0); clear BK16; have BK16 := n_; clear n_; have n_ := Aside0.mk (blk_below BK17.out hb); (try clear c17_0 z17_0 c17_1 z17_1 c17_2 z17_2 c17_3 z17_3 c17_4 z17_4); clear BK17; have BK17 := n_; clear n_; have n_ := Aside0.mk (blk_below BK18.out hb); (try clear c18_0); clear BK18; have BK18 := n_; clear n_; have n_ := Aside0.mk (blk_below BK25.out hb); (try clear c25_0 z25_0 c25_1 z25_1 c25_2 z25_2 c25_3 z25_3 c25_4 z25_4 c25_5 z25_5); clear BK25; have BK25 := n_; clear n_; have n_ := Aside0.mk (blk_below BK26.out hb); (try clear c26_0); clear BK26; have BK26 := n_; clear n_; have n_ := Aside0.mk (blk_below BK27.out hb); (try clear c27_0); clear BK27; have BK27 := n_; clear n_; have c17_0 : w_.cell? ⟨g17, 0, none⟩ = some (.int .i64 1) := (blk_cell BK17.out 0).trans rfl; have z17_0 := blk_frozen BK17.out 0; have c17_1 : w_.cell? ⟨g17, 1, none⟩ = some (.int .i64 4) := (blk_cell BK17.out 1).trans rfl; have z17_1 := blk_frozen BK17.out 1; have c17_2 : w_.cell? ⟨g17, 2, none⟩ = some (.int .i64 2) := (blk_cell BK17.out 2).trans rfl; have z17_2 := blk_frozen BK17.out 2; have c17_3 : w_.cell? ⟨g17, 3, none⟩ = some (.int .i64 3) := (blk_cell BK17.out 3).trans rfl; have z17_3 := blk_frozen BK17.out 3; have c17_4 : w_.cell? ⟨g17, 4, none⟩ = some (.int .i64 0) := (blk_cell BK17.out 4).trans rfl; have z17_4 := blk_frozen BK17.out 4; have c25_0 : w_.cell? ⟨g25, 0, none⟩ = some (.int .i64 5) := (blk_cell BK25.out 0).trans rfl; have z25_0 := blk_frozen BK25.out 0; have c25_1 : w_.cell? ⟨g25, 1, none⟩ = some (.int .i64 0) := (blk_cell BK25.out 1).trans rfl; have z25_1 := blk_frozen BK25.out 1; have c25_2 : w_.cell? ⟨g25, 2, none⟩ = some (.bool false) := (blk_cell BK25.out 2).trans rfl; have z25_2 := blk_frozen BK25.out 2; have c25_3 : w_.cell? ⟨g25, 3, none⟩ = some (.int .i64 pr) := (blk_cell BK25.out 3).trans rfl; have z25_3 := blk_frozen BK25.out 3; have c25_4 : w_.cell? ⟨g25, 4, none⟩ = some (.int .i64 ra) := (blk_cell BK25.out 4).trans rfl; have z25_4 := blk_frozen BK25.out 4; have c25_5 : w_.cell? ⟨g25, 5, none⟩ = some (.int .i64 ca) := (blk_cell BK25.out 5).trans rfl; have z25_5 := blk_frozen BK25.out 5; have BK28 := Aside0.mk hbox; clear hb hbox hg_; have c28_0 : w_.cell? ⟨g28, 0, none⟩ = some (.int .i64 0) := (blk_cell BK28.out 0).trans rfl; have z28_0 := blk_frozen BK28.out 0; have c28_1 : w_.cell? ⟨g28, 1, none⟩ = some (.int .i64 0) := (blk_cell BK28.out 1).trans rfl; have z28_1 := blk_frozen BK28.out 1; have c28_2 : w_.cell? ⟨g28, 2, none⟩ = some (.int .i64 0) := (blk_cell BK28.out 2).trans rfl; have z28_2 := blk_frozen BK28.out 2))
    have n0_ := Aside0.mk (((HB.out.setCell (p := ⟨g28, 0, none⟩) HG28.out (.int .i64 nw)).setCell (p := ⟨g28, 1, none⟩) HG28.out (.int .i64 nb)).setCell (p := ⟨g28, 2, none⟩) HG28.out (.int .i64 nv))
    have m28_ := Aside0.mk (blk_put (blk_put (blk_put BK28.out 0 (.int .i64 nw) rfl) 1 (.int .i64 nb) rfl) 2 (.int .i64 nv) rfl)
    have m16_ := Aside0.mk ((Below.heap_setCell _ ⟨g28, 2, none⟩ (.int .i64 nv) g16 (HN16_28.out)).trans ((Below.heap_setCell _ ⟨g28, 1, none⟩ (.int .i64 nb) g16 (HN16_28.out)).trans ((Below.heap_setCell _ ⟨g28, 0, none⟩ (.int .i64 nw) g16 (HN16_28.out)).trans BK16.out)))
    have m17_ := Aside0.mk ((Below.heap_setCell _ ⟨g28, 2, none⟩ (.int .i64 nv) g17 (HN17_28.out)).trans ((Below.heap_setCell _ ⟨g28, 1, none⟩ (.int .i64 nb) g17 (HN17_28.out)).trans ((Below.heap_setCell _ ⟨g28, 0, none⟩ (.int .i64 nw) g17 (HN17_28.out)).trans BK17.out)))
    have m18_ := Aside0.mk ((Below.heap_setCell _ ⟨g28, 2, none⟩ (.int .i64 nv) g18 (HN18_28.out)).trans ((Below.heap_setCell _ ⟨g28, 1, none⟩ (.int .i64 nb) g18 (HN18_28.out)).trans ((Below.heap_setCell _ ⟨g28, 0, none⟩ (.int .i64 nw) g18 (HN18_28.out)).trans BK18.out)))
    have m25_ := Aside0.mk ((Below.heap_setCell _ ⟨g28, 2, none⟩ (.int .i64 nv) g25 (HN25_28.out)).trans ((Below.heap_setCell _ ⟨g28, 1, none⟩ (.int .i64 nb) g25 (HN25_28.out)).trans ((Below.heap_setCell _ ⟨g28, 0, none⟩ (.int .i64 nw) g25 (HN25_28.out)).trans BK25.out)))
    have m26_ := Aside0.mk ((Below.heap_setCell _ ⟨g28, 2, none⟩ (.int .i64 nv) g26 (HN26_28.out)).trans ((Below.heap_setCell _ ⟨g28, 1, none⟩ (.int .i64 nb) g26 (HN26_28.out)).trans ((Below.heap_setCell _ ⟨g28, 0, none⟩ (.int .i64 nw) g26 (HN26_28.out)).trans BK26.out)))
    have m27_ := Aside0.mk ((Below.heap_setCell _ ⟨g28, 2, none⟩ (.int .i64 nv) g27 (HN27_28.out)).trans ((Below.heap_setCell _ ⟨g28, 1, none⟩ (.int .i64 nb) g27 (HN27_28.out)).trans ((Below.heap_setCell _ ⟨g28, 0, none⟩ (.int .i64 nw) g27 (HN27_28.out)).trans BK27.out)))
    clear HB BK16 BK17 BK18 BK25 BK26 BK27 BK28 c17_0 z17_0 c17_1 z17_1 c17_2 z17_2 c17_3 z17_3 c17_4 z17_4 c25_0 z25_0 c25_1 z25_1 c25_2 z25_2 c25_3 z25_3 c25_4 z25_4 c25_5 z25_5 c28_0 z28_0 c28_1 z28_1 c28_2 z28_2
    generalize (((w_.setCell ⟨g28, 0, none⟩ (.int .i64 nw)).setCell ⟨g28, 1, none⟩ (.int .i64 nb)).setCell ⟨g28, 2, none⟩ (.int .i64 nv)) = v14 at n0_ m16_ m17_ m18_ m25_ m26_ m27_ m28_ ⊢
    have HB := n0_
    have BK16 : Aside0 (v14.heap[g16]? = some (.cells #[.int .i64 5, .int .i64 0, .bool true, .int .i64 pr, .int .i64 ra, .int .i64 ca] 25 (0, 0))) := ⟨m16_.out.trans rfl⟩
    have BK17 : Aside0 (v14.heap[g17]? = some (.cells #[.int .i64 1, .int .i64 4, .int .i64 2, .int .i64 3, .int .i64 0] 23 (0, 0))) := ⟨m17_.out.trans rfl⟩
    have BK18 : Aside0 (v14.heap[g18]? = some (.cells #[.int .i64 sw, .int .i64 sb, .int .i64 sv] 28 (0, 0))) := ⟨m18_.out.trans rfl⟩
    have BK25 : Aside0 (v14.heap[g25]? = some (.cells #[.int .i64 5, .int .i64 0, .bool false, .int .i64 pr, .int .i64 ra, .int .i64 ca] 25 (0, 0))) := ⟨m25_.out.trans rfl⟩
    have BK26 : Aside0 (v14.heap[g26]? = some (.cells #[.int .i64 5, .int .i64 4, .bool true, .int .i64 pr, .int .i64 ra, .int .i64 ca] 25 (0, 0))) := ⟨m26_.out.trans rfl⟩
    have BK27 : Aside0 (v14.heap[g27]? = some (.cells #[.int .i64 1, .int .i64 4, .int .i64 2, .int .i64 3, .int .i64 5] 23 (0, 0))) := ⟨m27_.out.trans rfl⟩
    have BK28 : Aside0 (v14.heap[g28]? = some (.cells #[.int .i64 nw, .int .i64 nb, .int .i64 nv] 28 (0, 0))) := ⟨m28_.out.trans rfl⟩
    clear n0_ m16_ m17_ m18_ m25_ m26_ m27_ m28_
    clear BK25 HG25
    have c17_0 : v14.cell? ⟨g17, 0, none⟩ = some (.int .i64 1) := (blk_cell BK17.out 0).trans rfl
    have z17_0 := blk_frozen BK17.out 0
    have c17_1 : v14.cell? ⟨g17, 1, none⟩ = some (.int .i64 4) := (blk_cell BK17.out 1).trans rfl
    have z17_1 := blk_frozen BK17.out 1
    have c17_2 : v14.cell? ⟨g17, 2, none⟩ = some (.int .i64 2) := (blk_cell BK17.out 2).trans rfl
    have z17_2 := blk_frozen BK17.out 2
    have c17_3 : v14.cell? ⟨g17, 3, none⟩ = some (.int .i64 3) := (blk_cell BK17.out 3).trans rfl
    have z17_3 := blk_frozen BK17.out 3
    have c17_4 : v14.cell? ⟨g17, 4, none⟩ = some (.int .i64 0) := (blk_cell BK17.out 4).trans rfl
    have z17_4 := blk_frozen BK17.out 4
    have c26_0 : v14.cell? ⟨g26, 0, none⟩ = some (.int .i64 5) := (blk_cell BK26.out 0).trans rfl
    have z26_0 := blk_frozen BK26.out 0
    have c26_1 : v14.cell? ⟨g26, 1, none⟩ = some (.int .i64 4) := (blk_cell BK26.out 1).trans rfl
    have z26_1 := blk_frozen BK26.out 1
    have c26_2 : v14.cell? ⟨g26, 2, none⟩ = some (.bool true) := (blk_cell BK26.out 2).trans rfl
    have z26_2 := blk_frozen BK26.out 2
    have c26_3 : v14.cell? ⟨g26, 3, none⟩ = some (.int .i64 pr) := (blk_cell BK26.out 3).trans rfl
    have z26_3 := blk_frozen BK26.out 3
    have c26_4 : v14.cell? ⟨g26, 4, none⟩ = some (.int .i64 ra) := (blk_cell BK26.out 4).trans rfl
    have z26_4 := blk_frozen BK26.out 4
    have c26_5 : v14.cell? ⟨g26, 5, none⟩ = some (.int .i64 ca) := (blk_cell BK26.out 5).trans rfl
    have z26_5 := blk_frozen BK26.out 5
    go_upto_region 23 with (first
      | (go_at_call 8; have hN := value_Of.calls vF 1 4 2 3 0 q 5 4 true pr ra ca ow ob ov oe _ (HG.out.below HB.out) HO.out; (with_reducible refine hN.mono ?_); clear hN; rintro e_ w_ ⟨rfl, hb⟩; have n_ := Aside0.mk (below_step HB.out hb); clear HB; have HB := n_; clear n_; have n_ := Aside0.mk (blk_below BK16.out hb); (try clear c16_0); clear BK16; have BK16 := n_; clear n_; have n_ := Aside0.mk (blk_below BK17.out hb); (try clear c17_0 z17_0 c17_1 z17_1 c17_2 z17_2 c17_3 z17_3 c17_4 z17_4); clear BK17; have BK17 := n_; clear n_; have n_ := Aside0.mk (blk_below BK18.out hb); (try clear c18_0); clear BK18; have BK18 := n_; clear n_; have n_ := Aside0.mk (blk_below BK26.out hb); (try clear c26_0 z26_0 c26_1 z26_1 c26_2 z26_2 c26_3 z26_3 c26_4 z26_4 c26_5 z26_5); clear BK26; have BK26 := n_; clear n_; have n_ := Aside0.mk (blk_below BK27.out hb); (try clear c27_0); clear BK27; have BK27 := n_; clear n_; have n_ := Aside0.mk (blk_below BK28.out hb); (try clear c28_0); clear BK28; have BK28 := n_; clear n_; have c17_0 : w_.cell? ⟨g17, 0, none⟩ = some (.int .i64 1) := (blk_cell BK17.out 0).trans rfl; have z17_0 := blk_frozen BK17.out 0; have c17_1 : w_.cell? ⟨g17, 1, none⟩ = some (.int .i64 4) := (blk_cell BK17.out 1).trans rfl; have z17_1 := blk_frozen BK17.out 1; have c17_2 : w_.cell? ⟨g17, 2, none⟩ = some (.int .i64 2) := (blk_cell BK17.out 2).trans rfl; have z17_2 := blk_frozen BK17.out 2; have c17_3 : w_.cell? ⟨g17, 3, none⟩ = some (.int .i64 3) := (blk_cell BK17.out 3).trans rfl; have z17_3 := blk_frozen BK17.out 3; have c17_4 : w_.cell? ⟨g17, 4, none⟩ = some (.int .i64 0) := (blk_cell BK17.out 4).trans rfl; have z17_4 := blk_frozen BK17.out 4; have c26_0 : w_.cell? ⟨g26, 0, none⟩ = some (.int .i64 5) := (blk_cell BK26.out 0).trans rfl; have z26_0 := blk_frozen BK26.out 0; have c26_1 : w_.cell? ⟨g26, 1, none⟩ = some (.int .i64 4) := (blk_cell BK26.out 1).trans rfl; have z26_1 := blk_frozen BK26.out 1; have c26_2 : w_.cell? ⟨g26, 2, none⟩ = some (.bool true) := (blk_cell BK26.out 2).trans rfl; have z26_2 := blk_frozen BK26.out 2; have c26_3 : w_.cell? ⟨g26, 3, none⟩ = some (.int .i64 pr) := (blk_cell BK26.out 3).trans rfl; have z26_3 := blk_frozen BK26.out 3; have c26_4 : w_.cell? ⟨g26, 4, none⟩ = some (.int .i64 ra) := (blk_cell BK26.out 4).trans rfl; have z26_4 := blk_frozen BK26.out 4; have c26_5 : w_.cell? ⟨g26, 5, none⟩ = some (.int .i64 ca) := (blk_cell BK26.out 5).trans rfl; have z26_5 := blk_frozen BK26.out 5; clear hb)
      | ((with_reducible refine gate_dst (N := 30) rfl ?_); refine box_event ?hg (N := 30) ?hd (cs := #[.int .i64 0, .int .i64 0, .int .i64 0]) (t := 28) ?hr ?_; (case hd => rfl); (case hg => rfl); (case hr => first | (go_simp; done) | (go_simp; rfl)); intro g30 hg_ w_ hbox hb; have HN16_30 := Aside0.mk (show g16 ≠ g30 from by have := blk_lt BK16.out; omega); have HN17_30 := Aside0.mk (show g17 ≠ g30 from by have := blk_lt BK17.out; omega); have HN18_30 := Aside0.mk (show g18 ≠ g30 from by have := blk_lt BK18.out; omega); have HN26_30 := Aside0.mk (show g26 ≠ g30 from by have := blk_lt BK26.out; omega); have HN27_30 := Aside0.mk (show g27 ≠ g30 from by have := blk_lt BK27.out; omega); have HN28_30 := Aside0.mk (show g28 ≠ g30 from by have := blk_lt BK28.out; omega); have HG30 := Aside0.mk (show w.heap.size ≤ g30 from Nat.le_trans (below_size HB.out) (Nat.le_of_eq hg_.symm)); have n_ := Aside0.mk (below_step HB.out hb); clear HB; have HB := n_; clear n_; have n_ := Aside0.mk (blk_below BK16.out hb); (try clear c16_0); clear BK16; have BK16 := n_; clear n_; have n_ := Aside0.mk (blk_below BK17.out hb); (try clear c17_0 z17_0 c17_1 z17_1 c17_2 z17_2 c17_3 z17_3 c17_4 z17_4); clear BK17; have BK17 := n_; clear n_; have n_ := Aside0.mk (blk_below BK18.out hb); (try clear c18_0); clear BK18; have BK18 := n_; clear n_; have n_ := Aside0.mk (blk_below BK26.out hb); (try clear c26_0 z26_0 c26_1 z26_1 c26_2 z26_2 c26_3 z26_3 c26_4 z26_4 c26_5 z26_5); clear BK26; have BK26 := n_; clear n_; have n_ := Aside0.mk (blk_below BK27.out hb); (try clear c27_0); clear BK27; have BK27 := n_; clear n_; have n_ := Aside0.mk (blk_below BK28.out hb); (try clear c28_0); clear BK28; have BK28 := n_; clear n_; have c17_0 : w_.cell? ⟨g17, 0, none⟩ = some (.int .i64 1) := (blk_cell BK17.out 0).trans rfl; have z17_0 := blk_frozen BK17.out 0; have c17_1 : w_.cell? ⟨g17, 1, none⟩ = some (.int .i64 4) := (blk_cell BK17.out 1).trans rfl; have z17_1 := blk_frozen BK17.out 1; have c17_2 : w_.cell? ⟨g17, 2, none⟩ = some (.int .i64 2) := (blk_cell BK17.out 2).trans rfl; have z17_2 := blk_frozen BK17.out 2; have c17_3 : w_.cell? ⟨g17, 3, none⟩ = some (.int .i64 3) := (blk_cell BK17.out 3).trans rfl; have z17_3 := blk_frozen BK17.out 3; have c17_4 : w_.cell? ⟨g17, 4, none⟩ = some (.int .i64 0) := (blk_cell BK17.out 4).trans rfl; have z17_4 := blk_frozen BK17.out 4; have c26_0 : w_.cell? ⟨g26, 0, none⟩ = some (.int .i64 5) := (blk_cell BK26.out 0).trans rfl; have z26_0 := blk_frozen BK26.out 0; have c26_1 : w_.cell? ⟨g26, 1, none⟩ = some (.int .i64 4) := (blk_cell BK26.out 1).trans rfl; have z26_1 := blk_frozen BK26.out 1; have c26_2 : w_.cell? ⟨g26, 2, none⟩ = some (.bool true) := (blk_cell BK26.out 2).trans rfl; have z26_2 := blk_frozen BK26.out 2; have c26_3 : w_.cell? ⟨g26, 3, none⟩ = some (.int .i64 pr) := (blk_cell BK26.out 3).trans rfl; have z26_3 := blk_frozen BK26.out 3; have c26_4 : w_.cell? ⟨g26, 4, none⟩ = some (.int .i64 ra) := (blk_cell BK26.out 4).trans rfl; have z26_4 := blk_frozen BK26.out 4; have c26_5 : w_.cell? ⟨g26, 5, none⟩ = some (.int .i64 ca) := (blk_cell BK26.out 5).trans rfl; have z26_5 := blk_frozen BK26.out 5; have BK30 := Aside0.mk hbox; clear hb hbox hg_; have c30_0 : w_.cell? ⟨g30, 0, none⟩ = some (.int .i64 0) := (blk_cell BK30.out 0).trans rfl; have z30_0 := blk_frozen BK30.out 0; have c30_1 : w_.cell? ⟨g30, 1, none⟩ = some (.int .i64 0) := (blk_cell BK30.out 1).trans rfl; have z30_1 := blk_frozen BK30.out 1; have c30_2 : w_.cell? ⟨g30, 2, none⟩ = some (.int .i64 0) := (blk_cell BK30.out 2).trans rfl; have z30_2 := blk_frozen BK30.out 2))
    have n0_ := Aside0.mk (((HB.out.setCell (p := ⟨g30, 0, none⟩) HG30.out (.int .i64 ow)).setCell (p := ⟨g30, 1, none⟩) HG30.out (.int .i64 ob)).setCell (p := ⟨g30, 2, none⟩) HG30.out (.int .i64 ov))
    have m30_ := Aside0.mk (blk_put (blk_put (blk_put BK30.out 0 (.int .i64 ow) rfl) 1 (.int .i64 ob) rfl) 2 (.int .i64 ov) rfl)
    have m16_ := Aside0.mk ((Below.heap_setCell _ ⟨g30, 2, none⟩ (.int .i64 ov) g16 (HN16_30.out)).trans ((Below.heap_setCell _ ⟨g30, 1, none⟩ (.int .i64 ob) g16 (HN16_30.out)).trans ((Below.heap_setCell _ ⟨g30, 0, none⟩ (.int .i64 ow) g16 (HN16_30.out)).trans BK16.out)))
    have m17_ := Aside0.mk ((Below.heap_setCell _ ⟨g30, 2, none⟩ (.int .i64 ov) g17 (HN17_30.out)).trans ((Below.heap_setCell _ ⟨g30, 1, none⟩ (.int .i64 ob) g17 (HN17_30.out)).trans ((Below.heap_setCell _ ⟨g30, 0, none⟩ (.int .i64 ow) g17 (HN17_30.out)).trans BK17.out)))
    have m18_ := Aside0.mk ((Below.heap_setCell _ ⟨g30, 2, none⟩ (.int .i64 ov) g18 (HN18_30.out)).trans ((Below.heap_setCell _ ⟨g30, 1, none⟩ (.int .i64 ob) g18 (HN18_30.out)).trans ((Below.heap_setCell _ ⟨g30, 0, none⟩ (.int .i64 ow) g18 (HN18_30.out)).trans BK18.out)))
    have m26_ := Aside0.mk ((Below.heap_setCell _ ⟨g30, 2, none⟩ (.int .i64 ov) g26 (HN26_30.out)).trans ((Below.heap_setCell _ ⟨g30, 1, none⟩ (.int .i64 ob) g26 (HN26_30.out)).trans ((Below.heap_setCell _ ⟨g30, 0, none⟩ (.int .i64 ow) g26 (HN26_30.out)).trans BK26.out)))
    have m27_ := Aside0.mk ((Below.heap_setCell _ ⟨g30, 2, none⟩ (.int .i64 ov) g27 (HN27_30.out)).trans ((Below.heap_setCell _ ⟨g30, 1, none⟩ (.int .i64 ob) g27 (HN27_30.out)).trans ((Below.heap_setCell _ ⟨g30, 0, none⟩ (.int .i64 ow) g27 (HN27_30.out)).trans BK27.out)))
    have m28_ := Aside0.mk ((Below.heap_setCell _ ⟨g30, 2, none⟩ (.int .i64 ov) g28 (HN28_30.out)).trans ((Below.heap_setCell _ ⟨g30, 1, none⟩ (.int .i64 ob) g28 (HN28_30.out)).trans ((Below.heap_setCell _ ⟨g30, 0, none⟩ (.int .i64 ow) g28 (HN28_30.out)).trans BK28.out)))
    clear HB BK16 BK17 BK18 BK26 BK27 BK28 BK30 c17_0 z17_0 c17_1 z17_1 c17_2 z17_2 c17_3 z17_3 c17_4 z17_4 c26_0 z26_0 c26_1 z26_1 c26_2 z26_2 c26_3 z26_3 c26_4 z26_4 c26_5 z26_5 c30_0 z30_0 c30_1 z30_1 c30_2 z30_2
    generalize (((w_.setCell ⟨g30, 0, none⟩ (.int .i64 ow)).setCell ⟨g30, 1, none⟩ (.int .i64 ob)).setCell ⟨g30, 2, none⟩ (.int .i64 ov)) = v15 at n0_ m16_ m17_ m18_ m26_ m27_ m28_ m30_ ⊢
    have HB := n0_
    have BK16 : Aside0 (v15.heap[g16]? = some (.cells #[.int .i64 5, .int .i64 0, .bool true, .int .i64 pr, .int .i64 ra, .int .i64 ca] 25 (0, 0))) := ⟨m16_.out.trans rfl⟩
    have BK17 : Aside0 (v15.heap[g17]? = some (.cells #[.int .i64 1, .int .i64 4, .int .i64 2, .int .i64 3, .int .i64 0] 23 (0, 0))) := ⟨m17_.out.trans rfl⟩
    have BK18 : Aside0 (v15.heap[g18]? = some (.cells #[.int .i64 sw, .int .i64 sb, .int .i64 sv] 28 (0, 0))) := ⟨m18_.out.trans rfl⟩
    have BK26 : Aside0 (v15.heap[g26]? = some (.cells #[.int .i64 5, .int .i64 4, .bool true, .int .i64 pr, .int .i64 ra, .int .i64 ca] 25 (0, 0))) := ⟨m26_.out.trans rfl⟩
    have BK27 : Aside0 (v15.heap[g27]? = some (.cells #[.int .i64 1, .int .i64 4, .int .i64 2, .int .i64 3, .int .i64 5] 23 (0, 0))) := ⟨m27_.out.trans rfl⟩
    have BK28 : Aside0 (v15.heap[g28]? = some (.cells #[.int .i64 nw, .int .i64 nb, .int .i64 nv] 28 (0, 0))) := ⟨m28_.out.trans rfl⟩
    have BK30 : Aside0 (v15.heap[g30]? = some (.cells #[.int .i64 ow, .int .i64 ob, .int .i64 ov] 28 (0, 0))) := ⟨m30_.out.trans rfl⟩
    clear n0_ m16_ m17_ m18_ m26_ m27_ m28_ m30_
    clear BK26 HG26 BK17 HG17
    have c16_0 : v15.cell? ⟨g16, 0, none⟩ = some (.int .i64 5) := (blk_cell BK16.out 0).trans rfl
    have z16_0 := blk_frozen BK16.out 0
    have c16_1 : v15.cell? ⟨g16, 1, none⟩ = some (.int .i64 0) := (blk_cell BK16.out 1).trans rfl
    have z16_1 := blk_frozen BK16.out 1
    have c16_2 : v15.cell? ⟨g16, 2, none⟩ = some (.bool true) := (blk_cell BK16.out 2).trans rfl
    have z16_2 := blk_frozen BK16.out 2
    have c16_3 : v15.cell? ⟨g16, 3, none⟩ = some (.int .i64 pr) := (blk_cell BK16.out 3).trans rfl
    have z16_3 := blk_frozen BK16.out 3
    have c16_4 : v15.cell? ⟨g16, 4, none⟩ = some (.int .i64 ra) := (blk_cell BK16.out 4).trans rfl
    have z16_4 := blk_frozen BK16.out 4
    have c16_5 : v15.cell? ⟨g16, 5, none⟩ = some (.int .i64 ca) := (blk_cell BK16.out 5).trans rfl
    have z16_5 := blk_frozen BK16.out 5
    have c27_0 : v15.cell? ⟨g27, 0, none⟩ = some (.int .i64 1) := (blk_cell BK27.out 0).trans rfl
    have z27_0 := blk_frozen BK27.out 0
    have c27_1 : v15.cell? ⟨g27, 1, none⟩ = some (.int .i64 4) := (blk_cell BK27.out 1).trans rfl
    have z27_1 := blk_frozen BK27.out 1
    have c27_2 : v15.cell? ⟨g27, 2, none⟩ = some (.int .i64 2) := (blk_cell BK27.out 2).trans rfl
    have z27_2 := blk_frozen BK27.out 2
    have c27_3 : v15.cell? ⟨g27, 3, none⟩ = some (.int .i64 3) := (blk_cell BK27.out 3).trans rfl
    have z27_3 := blk_frozen BK27.out 3
    have c27_4 : v15.cell? ⟨g27, 4, none⟩ = some (.int .i64 5) := (blk_cell BK27.out 4).trans rfl
    have z27_4 := blk_frozen BK27.out 4
    go_upto_region 24 with (first
      | (go_at_call 8; have hN := value_Of.calls vF 1 4 2 3 5 q 5 0 true pr ra ca pw pb pv pe _ (HG.out.below HB.out) HP.out; (with_reducible refine hN.mono ?_); clear hN; rintro e_ w_ ⟨rfl, hb⟩; have n_ := Aside0.mk (below_step HB.out hb); clear HB; have HB := n_; clear n_; have n_ := Aside0.mk (blk_below BK16.out hb); (try clear c16_0 z16_0 c16_1 z16_1 c16_2 z16_2 c16_3 z16_3 c16_4 z16_4 c16_5 z16_5); clear BK16; have BK16 := n_; clear n_; have n_ := Aside0.mk (blk_below BK18.out hb); (try clear c18_0); clear BK18; have BK18 := n_; clear n_; have n_ := Aside0.mk (blk_below BK27.out hb); (try clear c27_0 z27_0 c27_1 z27_1 c27_2 z27_2 c27_3 z27_3 c27_4 z27_4); clear BK27; have BK27 := n_; clear n_; have n_ := Aside0.mk (blk_below BK28.out hb); (try clear c28_0); clear BK28; have BK28 := n_; clear n_; have n_ := Aside0.mk (blk_below BK30.out hb); (try clear c30_0); clear BK30; have BK30 := n_; clear n_; have c16_0 : w_.cell? ⟨g16, 0, none⟩ = some (.int .i64 5) := (blk_cell BK16.out 0).trans rfl; have z16_0 := blk_frozen BK16.out 0; have c16_1 : w_.cell? ⟨g16, 1, none⟩ = some (.int .i64 0) := (blk_cell BK16.out 1).trans rfl; have z16_1 := blk_frozen BK16.out 1; have c16_2 : w_.cell? ⟨g16, 2, none⟩ = some (.bool true) := (blk_cell BK16.out 2).trans rfl; have z16_2 := blk_frozen BK16.out 2; have c16_3 : w_.cell? ⟨g16, 3, none⟩ = some (.int .i64 pr) := (blk_cell BK16.out 3).trans rfl; have z16_3 := blk_frozen BK16.out 3; have c16_4 : w_.cell? ⟨g16, 4, none⟩ = some (.int .i64 ra) := (blk_cell BK16.out 4).trans rfl; have z16_4 := blk_frozen BK16.out 4; have c16_5 : w_.cell? ⟨g16, 5, none⟩ = some (.int .i64 ca) := (blk_cell BK16.out 5).trans rfl; have z16_5 := blk_frozen BK16.out 5; have c27_0 : w_.cell? ⟨g27, 0, none⟩ = some (.int .i64 1) := (blk_cell BK27.out 0).trans rfl; have z27_0 := blk_frozen BK27.out 0; have c27_1 : w_.cell? ⟨g27, 1, none⟩ = some (.int .i64 4) := (blk_cell BK27.out 1).trans rfl; have z27_1 := blk_frozen BK27.out 1; have c27_2 : w_.cell? ⟨g27, 2, none⟩ = some (.int .i64 2) := (blk_cell BK27.out 2).trans rfl; have z27_2 := blk_frozen BK27.out 2; have c27_3 : w_.cell? ⟨g27, 3, none⟩ = some (.int .i64 3) := (blk_cell BK27.out 3).trans rfl; have z27_3 := blk_frozen BK27.out 3; have c27_4 : w_.cell? ⟨g27, 4, none⟩ = some (.int .i64 5) := (blk_cell BK27.out 4).trans rfl; have z27_4 := blk_frozen BK27.out 4; clear hb)
      | ((with_reducible refine gate_dst (N := 32) rfl ?_); refine box_event ?hg (N := 32) ?hd (cs := #[.int .i64 0, .int .i64 0, .int .i64 0]) (t := 28) ?hr ?_; (case hd => rfl); (case hg => rfl); (case hr => first | (go_simp; done) | (go_simp; rfl)); intro g32 hg_ w_ hbox hb; have HN16_32 := Aside0.mk (show g16 ≠ g32 from by have := blk_lt BK16.out; omega); have HN18_32 := Aside0.mk (show g18 ≠ g32 from by have := blk_lt BK18.out; omega); have HN27_32 := Aside0.mk (show g27 ≠ g32 from by have := blk_lt BK27.out; omega); have HN28_32 := Aside0.mk (show g28 ≠ g32 from by have := blk_lt BK28.out; omega); have HN30_32 := Aside0.mk (show g30 ≠ g32 from by have := blk_lt BK30.out; omega); have HG32 := Aside0.mk (show w.heap.size ≤ g32 from Nat.le_trans (below_size HB.out) (Nat.le_of_eq hg_.symm)); have n_ := Aside0.mk (below_step HB.out hb); clear HB; have HB := n_; clear n_; have n_ := Aside0.mk (blk_below BK16.out hb); (try clear c16_0 z16_0 c16_1 z16_1 c16_2 z16_2 c16_3 z16_3 c16_4 z16_4 c16_5 z16_5); clear BK16; have BK16 := n_; clear n_; have n_ := Aside0.mk (blk_below BK18.out hb); (try clear c18_0); clear BK18; have BK18 := n_; clear n_; have n_ := Aside0.mk (blk_below BK27.out hb); (try clear c27_0 z27_0 c27_1 z27_1 c27_2 z27_2 c27_3 z27_3 c27_4 z27_4); clear BK27; have BK27 := n_; clear n_; have n_ := Aside0.mk (blk_below BK28.out hb); (try clear c28_0); clear BK28; have BK28 := n_; clear n_; have n_ := Aside0.mk (blk_below BK30.out hb); (try clear c30_0); clear BK30; have BK30 := n_; clear n_; have c16_0 : w_.cell? ⟨g16, 0, none⟩ = some (.int .i64 5) := (blk_cell BK16.out 0).trans rfl; have z16_0 := blk_frozen BK16.out 0; have c16_1 : w_.cell? ⟨g16, 1, none⟩ = some (.int .i64 0) := (blk_cell BK16.out 1).trans rfl; have z16_1 := blk_frozen BK16.out 1; have c16_2 : w_.cell? ⟨g16, 2, none⟩ = some (.bool true) := (blk_cell BK16.out 2).trans rfl; have z16_2 := blk_frozen BK16.out 2; have c16_3 : w_.cell? ⟨g16, 3, none⟩ = some (.int .i64 pr) := (blk_cell BK16.out 3).trans rfl; have z16_3 := blk_frozen BK16.out 3; have c16_4 : w_.cell? ⟨g16, 4, none⟩ = some (.int .i64 ra) := (blk_cell BK16.out 4).trans rfl; have z16_4 := blk_frozen BK16.out 4; have c16_5 : w_.cell? ⟨g16, 5, none⟩ = some (.int .i64 ca) := (blk_cell BK16.out 5).trans rfl; have z16_5 := blk_frozen BK16.out 5; have c27_0 : w_.cell? ⟨g27, 0, none⟩ = some (.int .i64 1) := (blk_cell BK27.out 0).trans rfl; have z27_0 := blk_frozen BK27.out 0; have c27_1 : w_.cell? ⟨g27, 1, none⟩ = some (.int .i64 4) := (blk_cell BK27.out 1).trans rfl; have z27_1 := blk_frozen BK27.out 1; have c27_2 : w_.cell? ⟨g27, 2, none⟩ = some (.int .i64 2) := (blk_cell BK27.out 2).trans rfl; have z27_2 := blk_frozen BK27.out 2; have c27_3 : w_.cell? ⟨g27, 3, none⟩ = some (.int .i64 3) := (blk_cell BK27.out 3).trans rfl; have z27_3 := blk_frozen BK27.out 3; have c27_4 : w_.cell? ⟨g27, 4, none⟩ = some (.int .i64 5) := (blk_cell BK27.out 4).trans rfl; have z27_4 := blk_frozen BK27.out 4; have BK32 := Aside0.mk hbox; clear hb hbox hg_; have c32_0 : w_.cell? ⟨g32, 0, none⟩ = some (.int .i64 0) := (blk_cell BK32.out 0).trans rfl; have z32_0 := blk_frozen BK32.out 0; have c32_1 : w_.cell? ⟨g32, 1, none⟩ = some (.int .i64 0) := (blk_cell BK32.out 1).trans rfl; have z32_1 := blk_frozen BK32.out 1; have c32_2 : w_.cell? ⟨g32, 2, none⟩ = some (.int .i64 0) := (blk_cell BK32.out 2).trans rfl; have z32_2 := blk_frozen BK32.out 2))
    have n0_ := Aside0.mk (((HB.out.setCell (p := ⟨g32, 0, none⟩) HG32.out (.int .i64 pw)).setCell (p := ⟨g32, 1, none⟩) HG32.out (.int .i64 pb)).setCell (p := ⟨g32, 2, none⟩) HG32.out (.int .i64 pv))
    have m32_ := Aside0.mk (blk_put (blk_put (blk_put BK32.out 0 (.int .i64 pw) rfl) 1 (.int .i64 pb) rfl) 2 (.int .i64 pv) rfl)
    have m16_ := Aside0.mk ((Below.heap_setCell _ ⟨g32, 2, none⟩ (.int .i64 pv) g16 (HN16_32.out)).trans ((Below.heap_setCell _ ⟨g32, 1, none⟩ (.int .i64 pb) g16 (HN16_32.out)).trans ((Below.heap_setCell _ ⟨g32, 0, none⟩ (.int .i64 pw) g16 (HN16_32.out)).trans BK16.out)))
    have m18_ := Aside0.mk ((Below.heap_setCell _ ⟨g32, 2, none⟩ (.int .i64 pv) g18 (HN18_32.out)).trans ((Below.heap_setCell _ ⟨g32, 1, none⟩ (.int .i64 pb) g18 (HN18_32.out)).trans ((Below.heap_setCell _ ⟨g32, 0, none⟩ (.int .i64 pw) g18 (HN18_32.out)).trans BK18.out)))
    have m27_ := Aside0.mk ((Below.heap_setCell _ ⟨g32, 2, none⟩ (.int .i64 pv) g27 (HN27_32.out)).trans ((Below.heap_setCell _ ⟨g32, 1, none⟩ (.int .i64 pb) g27 (HN27_32.out)).trans ((Below.heap_setCell _ ⟨g32, 0, none⟩ (.int .i64 pw) g27 (HN27_32.out)).trans BK27.out)))
    have m28_ := Aside0.mk ((Below.heap_setCell _ ⟨g32, 2, none⟩ (.int .i64 pv) g28 (HN28_32.out)).trans ((Below.heap_setCell _ ⟨g32, 1, none⟩ (.int .i64 pb) g28 (HN28_32.out)).trans ((Below.heap_setCell _ ⟨g32, 0, none⟩ (.int .i64 pw) g28 (HN28_32.out)).trans BK28.out)))
    have m30_ := Aside0.mk ((Below.heap_setCell _ ⟨g32, 2, none⟩ (.int .i64 pv) g30 (HN30_32.out)).trans ((Below.heap_setCell _ ⟨g32, 1, none⟩ (.int .i64 pb) g30 (HN30_32.out)).trans ((Below.heap_setCell _ ⟨g32, 0, none⟩ (.int .i64 pw) g30 (HN30_32.out)).trans BK30.out)))
    clear HB BK16 BK18 BK27 BK28 BK30 BK32 c16_0 z16_0 c16_1 z16_1 c16_2 z16_2 c16_3 z16_3 c16_4 z16_4 c16_5 z16_5 c27_0 z27_0 c27_1 z27_1 c27_2 z27_2 c27_3 z27_3 c27_4 z27_4 c32_0 z32_0 c32_1 z32_1 c32_2 z32_2
    generalize (((w_.setCell ⟨g32, 0, none⟩ (.int .i64 pw)).setCell ⟨g32, 1, none⟩ (.int .i64 pb)).setCell ⟨g32, 2, none⟩ (.int .i64 pv)) = v16 at n0_ m16_ m18_ m27_ m28_ m30_ m32_ ⊢
    have HB := n0_
    have BK16 : Aside0 (v16.heap[g16]? = some (.cells #[.int .i64 5, .int .i64 0, .bool true, .int .i64 pr, .int .i64 ra, .int .i64 ca] 25 (0, 0))) := ⟨m16_.out.trans rfl⟩
    have BK18 : Aside0 (v16.heap[g18]? = some (.cells #[.int .i64 sw, .int .i64 sb, .int .i64 sv] 28 (0, 0))) := ⟨m18_.out.trans rfl⟩
    have BK27 : Aside0 (v16.heap[g27]? = some (.cells #[.int .i64 1, .int .i64 4, .int .i64 2, .int .i64 3, .int .i64 5] 23 (0, 0))) := ⟨m27_.out.trans rfl⟩
    have BK28 : Aside0 (v16.heap[g28]? = some (.cells #[.int .i64 nw, .int .i64 nb, .int .i64 nv] 28 (0, 0))) := ⟨m28_.out.trans rfl⟩
    have BK30 : Aside0 (v16.heap[g30]? = some (.cells #[.int .i64 ow, .int .i64 ob, .int .i64 ov] 28 (0, 0))) := ⟨m30_.out.trans rfl⟩
    have BK32 : Aside0 (v16.heap[g32]? = some (.cells #[.int .i64 pw, .int .i64 pb, .int .i64 pv] 28 (0, 0))) := ⟨m32_.out.trans rfl⟩
    clear n0_ m16_ m18_ m27_ m28_ m30_ m32_
    obtain ⟨k8, k9, k10, k11, k12, k13⟩ := K8.out
    have ea : (nv == 0) = true := beq_iff_eq.mpr k8
    have eb : (ov == 0) = true := beq_iff_eq.mpr k9
    have ec : (pv == 0) = true := beq_iff_eq.mpr k10
    have ed : (nb == sb) = true := beq_iff_eq.mpr k11
    have ee : (ow == sw) = true := beq_iff_eq.mpr k12
    have ef : (pb == sb) = true := beq_iff_eq.mpr k13
    clear k8 k9 k10 k11 k12 k13
    have c18_0 : v16.cell? ⟨g18, 0, none⟩ = some (.int .i64 sw) := (blk_cell BK18.out 0).trans rfl
    have z18_0 := blk_frozen BK18.out 0
    have c18_1 : v16.cell? ⟨g18, 1, none⟩ = some (.int .i64 sb) := (blk_cell BK18.out 1).trans rfl
    have z18_1 := blk_frozen BK18.out 1
    have c18_2 : v16.cell? ⟨g18, 2, none⟩ = some (.int .i64 sv) := (blk_cell BK18.out 2).trans rfl
    have z18_2 := blk_frozen BK18.out 2
    have c28_0 : v16.cell? ⟨g28, 0, none⟩ = some (.int .i64 nw) := (blk_cell BK28.out 0).trans rfl
    have z28_0 := blk_frozen BK28.out 0
    have c28_1 : v16.cell? ⟨g28, 1, none⟩ = some (.int .i64 nb) := (blk_cell BK28.out 1).trans rfl
    have z28_1 := blk_frozen BK28.out 1
    have c28_2 : v16.cell? ⟨g28, 2, none⟩ = some (.int .i64 nv) := (blk_cell BK28.out 2).trans rfl
    have z28_2 := blk_frozen BK28.out 2
    have c30_0 : v16.cell? ⟨g30, 0, none⟩ = some (.int .i64 ow) := (blk_cell BK30.out 0).trans rfl
    have z30_0 := blk_frozen BK30.out 0
    have c30_1 : v16.cell? ⟨g30, 1, none⟩ = some (.int .i64 ob) := (blk_cell BK30.out 1).trans rfl
    have z30_1 := blk_frozen BK30.out 1
    have c30_2 : v16.cell? ⟨g30, 2, none⟩ = some (.int .i64 ov) := (blk_cell BK30.out 2).trans rfl
    have z30_2 := blk_frozen BK30.out 2
    have c32_0 : v16.cell? ⟨g32, 0, none⟩ = some (.int .i64 pw) := (blk_cell BK32.out 0).trans rfl
    have z32_0 := blk_frozen BK32.out 0
    have c32_1 : v16.cell? ⟨g32, 1, none⟩ = some (.int .i64 pb) := (blk_cell BK32.out 1).trans rfl
    have z32_1 := blk_frozen BK32.out 1
    have c32_2 : v16.cell? ⟨g32, 2, none⟩ = some (.int .i64 pv) := (blk_cell BK32.out 2).trans rfl
    have z32_2 := blk_frozen BK32.out 2
    go_wp2
    go_ret
    exact ⟨by first | rfl | simp, HB.out⟩

/-- The pure statement of pledgelaw15_ValueFalls: numbers and lists alone. -/
def pledgelaw15_ValueFalls.Pure : Prop := ∀ (a0 : Int) (a1 : Int) (a2 : Int) (a3 : Int) (a4 : Int) (a5 : Int), Rng .i64 a0 → Rng .i64 a1 → Rng .i64 a2 → Rng .i64 a3 → Rng .i64 a4 → Rng .i64 a5 → pledgelaw15_ValueFalls.f a0 a1 a2 a3 a4 a5 = some true

end Go.Proofs.YtmofdacfijobdaaDoor.EValueFalls
