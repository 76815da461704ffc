/- The functions that the law comes to, as plain functions, and for each a proof that the Go code comes to just these answers. Written by a program of this claim. Conditions: each theorem bears its own. -/
import Derived.Test.YtlalofmilhakjaaDoorELotsSayx0
import Derived.Test.YtlalofmilhakjaaDoorELotsSayx9
namespace Go.Proofs.YtlalofmilhakjaaDoor.ELotsSay
open Go.RowKit Go.Proofs.YtlalofmilhakjaaDoorW.PrintWords Go.Proofs.YtlalofmilhakjaaDoorW.PrintLast Go.Proofs.YtlalofmilhakjaaDoorW.PrintMore Go.Proofs.YtlalofmilhakjaaDoorW.PrintOpen
attribute [local go_sem] max2_int min2_int max_two min_two max_three min_three max_four min_four   -- for this text's walks alone
set_option linter.unusedVariables false
set_option linter.unusedSimpArgs false

/-! ### pledgeref_SameFault: function 47 -/
def pledgeref_SameFault.f (a0_0 : Int) (a0_1 : Bool) (a0_2 : Int) (a1_0 : Int) (a1_1 : Bool) (a1_2 : Int) : Option (Bool) := if a0_0 = a1_0 then (if (a0_1 == a1_1) = true then (some (a0_2 == a1_2)) else (some false)) else (some false)
set_option maxHeartbeats 8000000 in
set_option maxRecDepth 100000 in
theorem pledgeref_SameFault.calls [Inhabited (Int → Addr)] (a0_0 : Int) (a0_1 : Bool) (a0_2 : Int) (a1_0 : Int) (a1_1 : Bool) (a1_2 : Int) (r : Bool) (w : World) (h : pledgeref_SameFault.f a0_0 a0_1 a0_2 a1_0 a1_1 a1_2 = some r) :
  Calls Tryd.prog 47 #[.agg #[.int .i64 a0_0, .bool a0_1, .int .i64 a0_2], .agg #[.int .i64 a1_0, .bool a1_1, .int .i64 a1_2]] w fun e w' => e = .returned (.bool r) ∧ Below w.heap.size w w' := by
 have hu66 := Tryd.underlying66; have HB := Aside0.mk (Below.refl w.heap.size w); have H : (if a0_0 = a1_0 then (if (a0_1 == a1_1) = true then (some (a0_2 == a1_2)) else (some false)) else (some false)) = some r := h; clear h; by_cases c3 : a0_0 = a1_0
 ·
  rw [if_pos c3] at H; have c3b0 : (a0_0 == a1_0) = true := beq_iff_eq.mpr c3; have c3b1 : (a0_0 != a1_0) = false := bne_eq_false_iff_eq.mpr c3; clear c3; by_cases c4 : (a0_1 == a1_1) = true
  ·
   rw [if_pos c4] at H; have c4b0 : (a0_1 == a1_1) = true := c4; (try (have c4b1 : decide (a0_1 = a1_1) = true := by simpa using c4)); (try (have c4b2 : (a0_1 == a1_1) = true := by simpa using c4)); clear c4; obtain rfl := Option.some.inj H
   go_enter Tryd.func47, Tryd.ntmps47
   go_wp2_with (first | ((with_reducible refine gate_dst (N := 2) rfl ?_); refine box_event ?hg (N := 2) ?hd (cs := #[.int .i64 a0_0, .bool a0_1, .int .i64 a0_2]) (t := 66) ?hr ?_; (case hd => rfl); (case hg => rfl); (case hr => first | (go_simp; done) | (go_simp; rfl)); intro gb226 hg w5 hbox hb; have n0_ := Aside0.mk (below_step (zH HB.out) hb); have n1_ := Aside0.mk (hbox); have n2_ := Aside0.mk (zg hg (below_size (zH HB.out)) : w.heap.size ≤ gb226); have n3_ := Aside0.mk (zg hg (below_size (zH HB.out)) : w.heap.size ≤ gb226); clear HB; have HB := n0_; have BK226 := n1_; have GW226 := n2_; have GE226 := n3_; clear n0_ n1_ n2_ n3_; clear hb hbox hg) | ((with_reducible refine gate_dst (N := 3) rfl ?_); refine box_event ?hg (N := 3) ?hd (cs := #[.int .i64 a1_0, .bool a1_1, .int .i64 a1_2]) (t := 66) ?hr ?_; (case hd => rfl); (case hg => rfl); (case hr => first | (go_simp; done) | (go_simp; rfl)); intro gb227 hg w6 hbox hb; have n0_ := zBB BK226 hb; have n1_ := Aside0.mk (below_step (zH1 HB.out GE226.out) hb); have n2_ := Aside0.mk (hbox); have n3_ := Aside0.mk (zg hg (below_size (zH1 HB.out GE226.out)) : w.heap.size ≤ gb227); have n4_ := Aside0.mk (zg hg (below_size (zH1 HB.out GE226.out)) : w.heap.size ≤ gb227); have n5_ := Aside0.mk (zN hg BK226 : gb226 ≠ gb227); have n6_ := Aside0.mk (zO hg BK226 : gb227 ≠ gb226); clear BK226; clear HB; have BK226 := n0_; have HB := n1_; have BK227 := n2_; have GW227 := n3_; have GE227 := n4_; have NB226_227 := n5_; have NB227_226 := n6_; clear n0_ n1_ n2_ n3_ n4_ n5_ n6_; clear hb hbox hg; have hnb7 := NB226_227.out; have hnc7 := NB227_226.out; have hcz8_0 : w6.cell? ⟨gb226, 0, none⟩ = some (.int .i64 a0_0) := (blk_cell BK226.out 0).trans rfl; have hcz8_1 : w6.cell? ⟨gb226, 1, none⟩ = some (.bool a0_1) := (blk_cell BK226.out 1).trans rfl; have hcz8_2 : w6.cell? ⟨gb226, 2, none⟩ = some (.int .i64 a0_2) := (blk_cell BK226.out 2).trans rfl; have hfz8_0 := blk_frozen BK226.out 0; have hfz8_1 := blk_frozen BK226.out 1; have hfz8_2 := blk_frozen BK226.out 2; have hcz9_0 : w6.cell? ⟨gb227, 0, none⟩ = some (.int .i64 a1_0) := (blk_cell BK227.out 0).trans rfl; have hcz9_1 : w6.cell? ⟨gb227, 1, none⟩ = some (.bool a1_1) := (blk_cell BK227.out 1).trans rfl; have hcz9_2 : w6.cell? ⟨gb227, 2, none⟩ = some (.int .i64 a1_2) := (blk_cell BK227.out 2).trans rfl; have hfz9_0 := blk_frozen BK227.out 0; have hfz9_1 := blk_frozen BK227.out 1; have hfz9_2 := blk_frozen BK227.out 2))
   go_ret
   exact ⟨zE, zH2 HB.out GE226.out GE227.out⟩
  ·
   rw [if_neg c4] at H; have c4b0 : (a0_1 == a1_1) = false := by simpa using c4
   (try (have c4b1 : decide (a0_1 = a1_1) = false := by simpa using c4)); (try (have c4b2 : (a0_1 == a1_1) = false := by simpa using c4)); (try (have c4b3 : ¬ (a0_1 = a1_1) := by simpa using c4)); clear c4; obtain rfl := Option.some.inj H
   go_enter Tryd.func47, Tryd.ntmps47
   go_wp2_with (first | ((with_reducible refine gate_dst (N := 2) rfl ?_); refine box_event ?hg (N := 2) ?hd (cs := #[.int .i64 a0_0, .bool a0_1, .int .i64 a0_2]) (t := 66) ?hr ?_; (case hd => rfl); (case hg => rfl); (case hr => first | (go_simp; done) | (go_simp; rfl)); intro gb226 hg w10 hbox hb; have n0_ := Aside0.mk (below_step (zH HB.out) hb); have n1_ := Aside0.mk (hbox); have n2_ := Aside0.mk (zg hg (below_size (zH HB.out)) : w.heap.size ≤ gb226); have n3_ := Aside0.mk (zg hg (below_size (zH HB.out)) : w.heap.size ≤ gb226); clear HB; have HB := n0_; have BK226 := n1_; have GW226 := n2_; have GE226 := n3_; clear n0_ n1_ n2_ n3_; clear hb hbox hg) | ((with_reducible refine gate_dst (N := 3) rfl ?_); refine box_event ?hg (N := 3) ?hd (cs := #[.int .i64 a1_0, .bool a1_1, .int .i64 a1_2]) (t := 66) ?hr ?_; (case hd => rfl); (case hg => rfl); (case hr => first | (go_simp; done) | (go_simp; rfl)); intro gb227 hg w11 hbox hb; have n0_ := zBB BK226 hb; have n1_ := Aside0.mk (below_step (zH1 HB.out GE226.out) hb); have n2_ := Aside0.mk (hbox); have n3_ := Aside0.mk (zg hg (below_size (zH1 HB.out GE226.out)) : w.heap.size ≤ gb227); have n4_ := Aside0.mk (zg hg (below_size (zH1 HB.out GE226.out)) : w.heap.size ≤ gb227); have n5_ := Aside0.mk (zN hg BK226 : gb226 ≠ gb227); have n6_ := Aside0.mk (zO hg BK226 : gb227 ≠ gb226); clear BK226; clear HB; have BK226 := n0_; have HB := n1_; have BK227 := n2_; have GW227 := n3_; have GE227 := n4_; have NB226_227 := n5_; have NB227_226 := n6_; clear n0_ n1_ n2_ n3_ n4_ n5_ n6_; clear hb hbox hg; have hnb12 := NB226_227.out; have hnc12 := NB227_226.out; have hcz13_0 : w11.cell? ⟨gb226, 0, none⟩ = some (.int .i64 a0_0) := (blk_cell BK226.out 0).trans rfl; have hcz13_1 : w11.cell? ⟨gb226, 1, none⟩ = some (.bool a0_1) := (blk_cell BK226.out 1).trans rfl; have hcz13_2 : w11.cell? ⟨gb226, 2, none⟩ = some (.int .i64 a0_2) := (blk_cell BK226.out 2).trans rfl; have hfz13_0 := blk_frozen BK226.out 0; have hfz13_1 := blk_frozen BK226.out 1; have hfz13_2 := blk_frozen BK226.out 2; have hcz14_0 : w11.cell? ⟨gb227, 0, none⟩ = some (.int .i64 a1_0) := (blk_cell BK227.out 0).trans rfl; have hcz14_1 : w11.cell? ⟨gb227, 1, none⟩ = some (.bool a1_1) := (blk_cell BK227.out 1).trans rfl; have hcz14_2 : w11.cell? ⟨gb227, 2, none⟩ = some (.int .i64 a1_2) := (blk_cell BK227.out 2).trans rfl; have hfz14_0 := blk_frozen BK227.out 0; have hfz14_1 := blk_frozen BK227.out 1; have hfz14_2 := blk_frozen BK227.out 2))
   go_ret
   exact ⟨zE, zH2 HB.out GE226.out GE227.out⟩
 ·
  rw [if_neg c3] at H; have c3b0 : (a0_0 == a1_0) = false := beq_eq_false_iff_ne.mpr c3; have c3b1 : (a0_0 != a1_0) = true := bne_iff_ne.mpr c3; obtain rfl := Option.some.inj H
  go_enter Tryd.func47, Tryd.ntmps47
  go_wp2_with (first | ((with_reducible refine gate_dst (N := 2) rfl ?_); refine box_event ?hg (N := 2) ?hd (cs := #[.int .i64 a0_0, .bool a0_1, .int .i64 a0_2]) (t := 66) ?hr ?_; (case hd => rfl); (case hg => rfl); (case hr => first | (go_simp; done) | (go_simp; rfl)); intro gb226 hg w15 hbox hb; have n0_ := Aside0.mk (below_step (zH HB.out) hb); have n1_ := Aside0.mk (hbox); have n2_ := Aside0.mk (zg hg (below_size (zH HB.out)) : w.heap.size ≤ gb226); have n3_ := Aside0.mk (zg hg (below_size (zH HB.out)) : w.heap.size ≤ gb226); clear HB; have HB := n0_; have BK226 := n1_; have GW226 := n2_; have GE226 := n3_; clear n0_ n1_ n2_ n3_; clear hb hbox hg) | ((with_reducible refine gate_dst (N := 3) rfl ?_); refine box_event ?hg (N := 3) ?hd (cs := #[.int .i64 a1_0, .bool a1_1, .int .i64 a1_2]) (t := 66) ?hr ?_; (case hd => rfl); (case hg => rfl); (case hr => first | (go_simp; done) | (go_simp; rfl)); intro gb227 hg w16 hbox hb; have n0_ := zBB BK226 hb; have n1_ := Aside0.mk (below_step (zH1 HB.out GE226.out) hb); have n2_ := Aside0.mk (hbox); have n3_ := Aside0.mk (zg hg (below_size (zH1 HB.out GE226.out)) : w.heap.size ≤ gb227); have n4_ := Aside0.mk (zg hg (below_size (zH1 HB.out GE226.out)) : w.heap.size ≤ gb227); have n5_ := Aside0.mk (zN hg BK226 : gb226 ≠ gb227); have n6_ := Aside0.mk (zO hg BK226 : gb227 ≠ gb226); clear BK226; clear HB; have BK226 := n0_; have HB := n1_; have BK227 := n2_; have GW227 := n3_; have GE227 := n4_; have NB226_227 := n5_; have NB227_226 := n6_; clear n0_ n1_ n2_ n3_ n4_ n5_ n6_; clear hb hbox hg; have hnb17 := NB226_227.out; have hnc17 := NB227_226.out; have hcz18_0 : w16.cell? ⟨gb226, 0, none⟩ = some (.int .i64 a0_0) := (blk_cell BK226.out 0).trans rfl; have hcz18_1 : w16.cell? ⟨gb226, 1, none⟩ = some (.bool a0_1) := (blk_cell BK226.out 1).trans rfl; have hcz18_2 : w16.cell? ⟨gb226, 2, none⟩ = some (.int .i64 a0_2) := (blk_cell BK226.out 2).trans rfl; have hfz18_0 := blk_frozen BK226.out 0; have hfz18_1 := blk_frozen BK226.out 1; have hfz18_2 := blk_frozen BK226.out 2; have hcz19_0 : w16.cell? ⟨gb227, 0, none⟩ = some (.int .i64 a1_0) := (blk_cell BK227.out 0).trans rfl; have hcz19_1 : w16.cell? ⟨gb227, 1, none⟩ = some (.bool a1_1) := (blk_cell BK227.out 1).trans rfl; have hcz19_2 : w16.cell? ⟨gb227, 2, none⟩ = some (.int .i64 a1_2) := (blk_cell BK227.out 2).trans rfl; have hfz19_0 := blk_frozen BK227.out 0; have hfz19_1 := blk_frozen BK227.out 1; have hfz19_2 := blk_frozen BK227.out 2))
  go_ret
  exact ⟨zE, zH2 HB.out GE226.out GE227.out⟩

/-! ### pledgeref_Bare: function 39 -/
def pledgeref_Bare.f (a0 : Int) : Option (Int × Bool × Int) := some (a0, false, 0)
set_option maxHeartbeats 8000000 in
set_option maxRecDepth 100000 in
theorem pledgeref_Bare.calls [Inhabited (Int → Addr)] (a0 : Int) (r1 : Int) (r2 : Bool) (r3 : Int) (w : World) (h : pledgeref_Bare.f a0 = some (r1, r2, r3)) :
    Calls Tryd.prog 39 #[.int .i64 a0] w fun e w' => e = .returned (.agg #[.int .i64 r1, .bool r2, .int .i64 r3]) ∧ Below w.heap.size w w' := by
  have hu66 := Tryd.underlying66; have HB := Aside0.mk (Below.refl w.heap.size w); have H : (some (a0, false, 0)) = some (r1, r2, r3) := h; clear h; simp only [Option.some.injEq, Prod.mk.injEq] at H; obtain ⟨rfl, rfl, rfl⟩ := H
  go_enter Tryd.func39, Tryd.ntmps39
  go_wp2_with (first | ((with_reducible refine gate_dst (N := 2) rfl ?_); refine box_event ?hg (N := 2) ?hd (cs := #[.int .i64 0, .bool false, .int .i64 0]) (t := 66) ?hr ?_; (case hd => rfl); (case hg => rfl); (case hr => first | (go_simp; done) | (go_simp; rfl)); intro gb228 hg w2 hbox hb; have n0_ := Aside0.mk (below_step (zH HB.out) hb); have n1_ := Aside0.mk (hbox); have n2_ := Aside0.mk (zg hg (below_size (zH HB.out)) : w.heap.size ≤ gb228); have n3_ := Aside0.mk (zg hg (below_size (zH HB.out)) : w.heap.size ≤ gb228); clear HB; have HB := n0_; have BK228 := n1_; have GW228 := n2_; have GE228 := n3_; clear n0_ n1_ n2_ n3_; clear hb hbox hg; have hcz3_0 : w2.cell? ⟨gb228, 0, none⟩ = some (.int .i64 0) := (blk_cell BK228.out 0).trans rfl; have hcz3_1 : w2.cell? ⟨gb228, 1, none⟩ = some (.bool false) := (blk_cell BK228.out 1).trans rfl; have hcz3_2 : w2.cell? ⟨gb228, 2, none⟩ = some (.int .i64 0) := (blk_cell BK228.out 2).trans rfl; have hfz3_0 := blk_frozen BK228.out 0; have hfz3_1 := blk_frozen BK228.out 1; have hfz3_2 := blk_frozen BK228.out 2))
  refine bodyPost_ret (results_cell_row rfl _ _ gb228 66 #[.int .i64 a0, .bool false, .int .i64 0] (0, 0) _ rfl (by (with_reducible repeat (first | refine blk_drewN ?_ _ | refine blk_drew ?_ | refine blk_alloc ?_ _)); refine blk_put (cs := #[.int .i64 a0, .bool false, .int .i64 0]) ?_ 2 _ rfl; (with_reducible repeat (first | refine blk_drewN ?_ _ | refine blk_drew ?_ | refine blk_alloc ?_ _)); refine blk_put (cs := #[.int .i64 a0, .bool false, .int .i64 0]) ?_ 1 _ rfl; (with_reducible repeat (first | refine blk_drewN ?_ _ | refine blk_drew ?_ | refine blk_alloc ?_ _)); refine blk_put (cs := #[.int .i64 0, .bool false, .int .i64 0]) ?_ 0 _ rfl; (with_reducible repeat (first | refine blk_drewN ?_ _ | refine blk_drew ?_ | refine blk_alloc ?_ _)); exact BK228.out) Tryd.underlying66 rfl (by kernel_rfl)) rfl ?_; exact ⟨zE, zH1 HB.out GE228.out⟩

/-! ### pledgeref_None: function 52 -/
def pledgeref_None.f  : Option (Int × Bool × Int) := some (0, false, 0)
set_option maxHeartbeats 8000000 in
set_option maxRecDepth 100000 in
theorem pledgeref_None.calls [Inhabited (Int → Addr)]  (r1 : Int) (r2 : Bool) (r3 : Int) (w : World) (h : pledgeref_None.f  = some (r1, r2, r3)) :
  Calls Tryd.prog 52 #[] w fun e w' => e = .returned (.agg #[.int .i64 r1, .bool r2, .int .i64 r3]) ∧ Below w.heap.size w w' := by
 have hu66 := Tryd.underlying66; have HB := Aside0.mk (Below.refl w.heap.size w); have H : (some (0, false, 0)) = some (r1, r2, r3) := h; clear h; simp only [Option.some.injEq, Prod.mk.injEq] at H; obtain ⟨rfl, rfl, rfl⟩ := H
 go_enter Tryd.func52, Tryd.ntmps52
 go_wp2_with (first | ((with_reducible refine gate_dst (N := 0) rfl ?_); refine box_event ?hg (N := 0) ?hd (cs := #[.int .i64 0, .bool false, .int .i64 0]) (t := 66) ?hr ?_; (case hd => rfl); (case hg => rfl); (case hr => first | (go_simp; done) | (go_simp; rfl)); intro gb229 hg w1 hbox hb; have n0_ := Aside0.mk (below_step (zH HB.out) hb); have n1_ := Aside0.mk (hbox); have n2_ := Aside0.mk (zg hg (below_size (zH HB.out)) : w.heap.size ≤ gb229); have n3_ := Aside0.mk (zg hg (below_size (zH HB.out)) : w.heap.size ≤ gb229); clear HB; have HB := n0_; have BK229 := n1_; have GW229 := n2_; have GE229 := n3_; clear n0_ n1_ n2_ n3_; clear hb hbox hg; have hcz2_0 : w1.cell? ⟨gb229, 0, none⟩ = some (.int .i64 0) := (blk_cell BK229.out 0).trans rfl; have hcz2_1 : w1.cell? ⟨gb229, 1, none⟩ = some (.bool false) := (blk_cell BK229.out 1).trans rfl; have hcz2_2 : w1.cell? ⟨gb229, 2, none⟩ = some (.int .i64 0) := (blk_cell BK229.out 2).trans rfl; have hfz2_0 := blk_frozen BK229.out 0; have hfz2_1 := blk_frozen BK229.out 1; have hfz2_2 := blk_frozen BK229.out 2))
 refine bodyPost_ret (results_cell_row rfl _ _ gb229 66 #[.int .i64 0, .bool false, .int .i64 0] (0, 0) _ rfl (by (with_reducible repeat (first | refine blk_drewN ?_ _ | refine blk_drew ?_ | refine blk_alloc ?_ _)); refine blk_put (cs := #[.int .i64 0, .bool false, .int .i64 0]) ?_ 2 _ rfl; (with_reducible repeat (first | refine blk_drewN ?_ _ | refine blk_drew ?_ | refine blk_alloc ?_ _)); refine blk_put (cs := #[.int .i64 0, .bool false, .int .i64 0]) ?_ 1 _ rfl; (with_reducible repeat (first | refine blk_drewN ?_ _ | refine blk_drew ?_ | refine blk_alloc ?_ _)); refine blk_put (cs := #[.int .i64 0, .bool false, .int .i64 0]) ?_ 0 _ rfl; (with_reducible repeat (first | refine blk_drewN ?_ _ | refine blk_drew ?_ | refine blk_alloc ?_ _)); exact BK229.out) Tryd.underlying66 rfl (by kernel_rfl)) rfl ?_; exact ⟨zE, zH1 HB.out GE229.out⟩

def errKd [Inhabited (Int → Addr)] : Kd (Option Int) := Kd.scalar errW (fun x => by cases x <;> rfl)
def sentL : List (Option Int) := [some 101, some 102, some 103, some 104, some 105, some 106, some 107, some 108, some 109, some 110, some 111, some 112, some 113, some 114, some 115, some 116, some 117, some 118, some 119, some 120, some 121]
set_option maxHeartbeats 4000000 in
set_option maxRecDepth 100000 in
theorem sentinels_calls [Inhabited (Int → Addr)] (w : World) (hG : GlobOK w) :
  Calls Tryd.prog 62 #[] w fun e w' => ∃ v, e = .returned v ∧ Kd.R errKd 36 w' w.heap.size (fun _ => True) v sentL ∧ Below w.heap.size w w' := by
 have hx0 := GlobOK.at hG 101 2 (by simp [globTab]); have hx1 := GlobOK.at hG 102 3 (by simp [globTab]); have hx2 := GlobOK.at hG 103 1 (by simp [globTab]); have hx3 := GlobOK.at hG 104 4 (by simp [globTab]); have hx4 := GlobOK.at hG 105 0 (by simp [globTab]); have hx5 := GlobOK.at hG 106 5 (by simp [globTab]); have hx6 := GlobOK.at hG 107 6 (by simp [globTab]); have hx7 := GlobOK.at hG 108 7 (by simp [globTab]); have hx8 := GlobOK.at hG 109 8 (by simp [globTab]); have hx9 := GlobOK.at hG 110 9 (by simp [globTab]); have hx10 := GlobOK.at hG 111 10 (by simp [globTab]); have hx11 := GlobOK.at hG 112 11 (by simp [globTab]); have hx12 := GlobOK.at hG 113 12 (by simp [globTab]); have hx13 := GlobOK.at hG 114 13 (by simp [globTab]); have hx14 := GlobOK.at hG 115 14 (by simp [globTab]); have hx15 := GlobOK.at hG 116 15 (by simp [globTab]); have hx16 := GlobOK.at hG 117 16 (by simp [globTab]); have hx17 := GlobOK.at hG 118 17 (by simp [globTab]); have hx18 := GlobOK.at hG 119 18 (by simp [globTab]); have hx19 := GlobOK.at hG 120 19 (by simp [globTab]); have hx20 := GlobOK.at hG 121 20 (by simp [globTab]); clear hG
 go_enter Tryd.func62, Tryd.ntmps62
 go_wp2_with ((with_reducible refine gate_dst (N := 22) rfl ?_); refine Kd.R_lit errKd _ 36 ?hg (N := 22) ?hd (xs := sentL) (inner := [.iface 104 (.pointer (some (adr 101))), .iface 104 (.pointer (some (adr 102))), .iface 104 (.pointer (some (adr 103))), .iface 104 (.pointer (some (adr 104))), .iface 104 (.pointer (some (adr 105))), .iface 104 (.pointer (some (adr 106))), .iface 104 (.pointer (some (adr 107))), .iface 104 (.pointer (some (adr 108))), .iface 104 (.pointer (some (adr 109))), .iface 104 (.pointer (some (adr 110))), .iface 104 (.pointer (some (adr 111))), .iface 104 (.pointer (some (adr 112))), .iface 104 (.pointer (some (adr 113))), .iface 104 (.pointer (some (adr 114))), .iface 104 (.pointer (some (adr 115))), .iface 104 (.pointer (some (adr 116))), .iface 104 (.pointer (some (adr 117))), .iface 104 (.pointer (some (adr 118))), .iface 104 (.pointer (some (adr 119))), .iface 104 (.pointer (some (adr 120))), .iface 104 (.pointer (some (adr 121)))]) (ok := fun _ => True) (okp := fun _ => True) ?hr ?hp (fun _ hk => hk) trivial (Below.refl _ _) (Nat.le_refl _) (by decide) ?_; (case hd => rfl); (case hg => rfl); (case hr => first | (go_simp; done) | (go_simp; rfl)); (case hp => exact (Reps.one (show Kd.M errKd _ _ _ (some 101) [.iface 104 (.pointer (some (adr 101)))] from rfl) (Reps.one (show Kd.M errKd _ _ _ (some 102) [.iface 104 (.pointer (some (adr 102)))] from rfl) (Reps.one (show Kd.M errKd _ _ _ (some 103) [.iface 104 (.pointer (some (adr 103)))] from rfl) (Reps.one (show Kd.M errKd _ _ _ (some 104) [.iface 104 (.pointer (some (adr 104)))] from rfl) (Reps.one (show Kd.M errKd _ _ _ (some 105) [.iface 104 (.pointer (some (adr 105)))] from rfl) (Reps.one (show Kd.M errKd _ _ _ (some 106) [.iface 104 (.pointer (some (adr 106)))] from rfl) (Reps.one (show Kd.M errKd _ _ _ (some 107) [.iface 104 (.pointer (some (adr 107)))] from rfl) (Reps.one (show Kd.M errKd _ _ _ (some 108) [.iface 104 (.pointer (some (adr 108)))] from rfl) (Reps.one (show Kd.M errKd _ _ _ (some 109) [.iface 104 (.pointer (some (adr 109)))] from rfl) (Reps.one (show Kd.M errKd _ _ _ (some 110) [.iface 104 (.pointer (some (adr 110)))] from rfl) (Reps.one (show Kd.M errKd _ _ _ (some 111) [.iface 104 (.pointer (some (adr 111)))] from rfl) (Reps.one (show Kd.M errKd _ _ _ (some 112) [.iface 104 (.pointer (some (adr 112)))] from rfl) (Reps.one (show Kd.M errKd _ _ _ (some 113) [.iface 104 (.pointer (some (adr 113)))] from rfl) (Reps.one (show Kd.M errKd _ _ _ (some 114) [.iface 104 (.pointer (some (adr 114)))] from rfl) (Reps.one (show Kd.M errKd _ _ _ (some 115) [.iface 104 (.pointer (some (adr 115)))] from rfl) (Reps.one (show Kd.M errKd _ _ _ (some 116) [.iface 104 (.pointer (some (adr 116)))] from rfl) (Reps.one (show Kd.M errKd _ _ _ (some 117) [.iface 104 (.pointer (some (adr 117)))] from rfl) (Reps.one (show Kd.M errKd _ _ _ (some 118) [.iface 104 (.pointer (some (adr 118)))] from rfl) (Reps.one (show Kd.M errKd _ _ _ (some 119) [.iface 104 (.pointer (some (adr 119)))] from rfl) (Reps.one (show Kd.M errKd _ _ _ (some 120) [.iface 104 (.pointer (some (adr 120)))] from rfl) (Reps.one (show Kd.M errKd _ _ _ (some 121) [.iface 104 (.pointer (some (adr 121)))] from rfl) (Reps.none _ _))))))))))))))))))))))); intro v w2 ho3 hb hg_ hnew_; clear hg_ hnew_)
 go_ret
 exact ⟨_, rfl, ho3, hb⟩
theorem comp104 : (Tryd.prog.info? 104).map (·.comparable) = some true := by kernel_rfl
theorem size123 : (Tryd.prog.info? 123).map (·.size) = some 1 := by kernel_rfl
theorem eql_errs [Inhabited (Int → Addr)] {w : World} (hG : GlobOK w) {c d : Int} {g g' : Nat} (hc : (c, g) ∈ globTab) (hd : (d, g') ∈ globTab) :
  (binOp .eql 36 (.iface 104 (.pointer (some (adr c)))) (.iface 104 (.pointer (some (adr d))))).run Tryd.prog w = Result.ok (.bool (c == d)) w := by
 obtain ⟨i, hi, hcmp⟩ := Option.map_eq_some_iff.1 comp104; obtain ⟨j, hj, hsz⟩ := Option.map_eq_some_iff.1 size123; by_cases e : c = d
 ·
  subst e; have := run_eql_iface_ptr_same w (adr c) Tryd.underlying36 Tryd.underlying104 hi hcmp hj
  simpa using this
 ·
  obtain ⟨_, c1, t1, h1⟩ := hG.1 _ hc; obtain ⟨_, c2, t2, h2⟩ := hG.1 _ hd; have := run_eql_iface_ptr_other w Tryd.underlying36 Tryd.underlying104 hi hcmp hj (by rw [hsz]; decide) (hG.2 _ hc _ hd e) h1 h2; rw [this, show (c == d) = false from beq_eq_false_iff_ne.2 e]
set_option maxHeartbeats 4000000 in
theorem alike_calls [Inhabited (Int → Addr)] {c d : Int} {g g' : Nat} (w : World) (hG : GlobOK w) (hc : (c, g) ∈ globTab) (hd : (d, g') ∈ globTab) :
  Calls Tryd.prog 63 #[.iface 104 (.pointer (some (adr c))), .iface 104 (.pointer (some (adr d)))] w fun e w' => e = .returned (.bool (c == d)) ∧ w = w' := by
 have he := eql_errs hG hc hd; have hu36 := Tryd.underlying36; clear hG hc hd
 go_enter Tryd.func63, Tryd.ntmps63
 go_wp2
 go_ret
 exact ⟨rfl, rfl⟩
theorem globAll (k : Nat) (hk : k < 21) : ∃ g, (101 + (k : Int), g) ∈ globTab := by
 have h : ∀ j : Fin 21, (globTab.any fun p => p.1 == 101 + ((j : Nat) : Int)) = true := by decide
 obtain ⟨p, hp, he⟩ := List.any_eq_true.1 (h ⟨k, hk⟩); exact ⟨p.2, by rw [← (eq_of_beq he : p.1 = 101 + (k : Int))]; exact hp⟩
theorem sentL_at (k : Nat) (hk : k < 21) : sentL.getD k none = some (101 + (k : Int)) := by
 have h : ∀ j : Fin 21, sentL.getD (j : Nat) none = some (101 + ((j : Nat) : Int)) := by decide
 exact h ⟨k, hk⟩
theorem at_sent [Inhabited (Int → Addr)] {w : World} {A : Option Addr} {n : Nat} (h : Kd.C errKd w A n sentL) (k : Nat) (hk : k < 21) (hn : n = 21) :
  ∃ ad, A = some ad ∧ w.cell? (ad.add k) = some (.iface 104 (.pointer (some (adr (101 + (k : Int)))))) := by
 obtain ⟨ad, c, e, _, hK, hc⟩ := Kd.C_get h none (k : Int) (by omega) (by omega); refine ⟨ad, e, ?_⟩; have hc' : ∀ j u, c[j]? = some u → w.cell? (ad.add (((k : Int)).toNat * 1 + j)) = some u := hc; have hK' : c = [errW (sentL.getD ((k : Int)).toNat none)] := hK; subst hK'; have := hc' 0 _ rfl; rw [Int.toNat_natCast, Nat.mul_one, Nat.add_zero, sentL_at k hk, errW_some] at this; exact this
set_option maxHeartbeats 4000000 in
set_option maxRecDepth 100000 in
theorem sentinel_calls [Inhabited (Int → Addr)] (m : Nat) (hm : m < 21) (w : World) (hG : GlobOK w) :
  Calls Tryd.prog 53 #[.iface 104 (.pointer (some (adr (101 + (m : Int)))))] w fun e w' => e = .returned (.int .i64 (101 + (m : Int))) ∧ Below w.heap.size w w' := by
 have HG := Aside0.mk hG; clear hG
 go_enter Tryd.func53, Tryd.ntmps53
 go_wp2_with (go_at_call 62; refine (sentinels_calls _ HG.out).mono ?_; rintro e w2 ⟨v, rfl, ho, hb⟩; obtain ⟨A, cc, ev⟩ := Kd.R_slice ho; replace ev : v = .slice A 21 cc := ev; subst ev; have HC := Aside0.mk (Kd.R_reads' ho).2.2; have HB := Aside0.mk hb; clear ho hb)
 have HG2 := Aside0.mk (GlobOK.below HG.out HB.out)
 go_loop [4] (fun i => ∃ k : Nat, k ≤ m ∧ i = .int .i64 k) (fun i => 21 - (intOf i).toNat)
 case atStart => exact ⟨0, Nat.zero_le _, rfl⟩
 case round =>
  obtain ⟨k, hk, rfl⟩ := hrel; obtain ⟨ad, e, hx⟩ := at_sent HC.out k (by omega) rfl; subst e; obtain ⟨g1, hg1⟩ := globAll m hm; obtain ⟨g2, hg2⟩ := globAll k (by omega); have H1 := Aside0.mk hg1; have H2 := Aside0.mk hg2; clear hg1 hg2; have hlt : (k < 21) = True := eq_true (by omega); have hb0 : decide (k < 21) = true := decide_eq_true (by omega); have h0 : (0 ≤ (k : Int)) = True := eq_true (by omega); have hb1 : decide ((k : Int) < 21) = true := decide_eq_true (by omega); have hl1 : ((k : Int) < 21) = True := eq_true (by omega); by_cases hkm : k = m
  ·
   subst hkm; have hbb : ((101 + (k : Int)) == (101 + (k : Int))) = true := by simp
   go_wp2_with (go_at_call 63; refine (alike_calls _ HG2.out H1.out H2.out).mono ?_; rintro e w3 ⟨rfl, rfl⟩)
   go_ret
   exact ⟨rfl, HB.out⟩
  ·
   have hbb : ((101 + (m : Int)) == (101 + (k : Int))) = false := by simp; omega
   go_wp2_with (go_at_call 63; refine (alike_calls _ HG2.out H1.out H2.out).mono ?_; rintro e w3 ⟨rfl, rfl⟩)
   go_round
   case rel => exact ⟨k + 1, by omega, by go_num⟩
   case measure => simp [intOf]; omega

/-! ### pledgesee_sentinel: function 53 -/
def pledgesee_sentinel.f (a0 : Option Int) : Option Int := if 101 ≤ a0.getD 0 ∧ a0.getD 0 ≤ 121 then a0 else none
theorem pledgesee_sentinel.calls [Inhabited (Int → Addr)] (a0 : Option Int) (r : Int) (w : World) (hG : GlobOK w) (h : pledgesee_sentinel.f a0 = some r) :
    Calls Tryd.prog 53 #[errW a0] w fun e w' => e = .returned (.int .i64 r) ∧ Below w.heap.size w w' := by
  rcases a0 with _ | c
  · simp [pledgesee_sentinel.f] at h
  · unfold pledgesee_sentinel.f at h
    by_cases hc : 101 ≤ (some c).getD 0 ∧ (some c).getD 0 ≤ 121
    · rw [if_pos hc] at h
      obtain rfl := Option.some.inj h; simp only [Option.getD_some] at hc; have := sentinel_calls (c - 101).toNat (by omega) w hG; rw [show (101 : Int) + ((c - 101).toNat : Int) = c by omega] at this; exact this
    · rw [if_neg hc] at h; cases h

/-! ### pledgeref_Placed: function 54 -/
def pledgeref_Placed.f (a0 : Int) (a1 : Int) : Option (Int × Bool × Int) := if a0 = 0 then ((pledgeref_None.f).bind fun bt231 => (some (bt231.1, bt231.2.1, bt231.2.2))) else (some (a0, true, a1))
set_option maxHeartbeats 8000000 in
set_option maxRecDepth 100000 in
theorem pledgeref_Placed.calls [Inhabited (Int → Addr)] (a0 : Int) (a1 : Int) (r1 : Int) (r2 : Bool) (r3 : Int) (w : World) (h : pledgeref_Placed.f a0 a1 = some (r1, r2, r3)) :
    Calls Tryd.prog 54 #[.int .i64 a0, .int .i64 a1] w fun e w' => e = .returned (.agg #[.int .i64 r1, .bool r2, .int .i64 r3]) ∧ Below w.heap.size w w' := by
  have hu66 := Tryd.underlying66; have HB := Aside0.mk (Below.refl w.heap.size w); have H : (if a0 = 0 then ((pledgeref_None.f).bind fun bt231 => (some (bt231.1, bt231.2.1, bt231.2.2))) else (some (a0, true, a1))) = some (r1, r2, r3) := h; clear h; by_cases c3 : a0 = 0
  · rw [if_pos c3] at H
    have c3b0 : (a0 == 0) = true := beq_iff_eq.mpr c3; have c3b1 : (a0 != 0) = false := bne_eq_false_iff_eq.mpr c3; clear c3; replace H := Option.bind_eq_some_iff.mp H; obtain ⟨⟨t231, t232, t233⟩, A40, H⟩ := H; replace H : (some (t231, t232, t233)) = some (r1, r2, r3) := H; have A4 := Aside0.mk A40; clear A40; simp only [Option.some.injEq, Prod.mk.injEq] at H; obtain ⟨rfl, rfl, rfl⟩ := H
    go_enter Tryd.func54, Tryd.ntmps54
    go_wp2_with (first | ((with_reducible refine gate_dst (N := 4) rfl ?_); refine box_event ?hg (N := 4) ?hd (cs := #[.int .i64 0, .bool false, .int .i64 0]) (t := 66) ?hr ?_; (case hd => rfl); (case hg => rfl); (case hr => first | (go_simp; done) | (go_simp; rfl)); intro gb230 hg w5 hbox hb; have n0_ := Aside0.mk (below_step (zH HB.out) hb); have n1_ := Aside0.mk (hbox); have n2_ := Aside0.mk (zg hg (below_size (zH HB.out)) : w.heap.size ≤ gb230); have n3_ := Aside0.mk (zg hg (below_size (zH HB.out)) : w.heap.size ≤ gb230); clear HB; have HB := n0_; have BK230 := n1_; have GW230 := n2_; have GE230 := n3_; clear n0_ n1_ n2_ n3_; clear hb hbox hg) | ((with_reducible refine gate_callee (f := 52) rfl ?_); refine goesL_ (some 7) rfl rfl Tryd.func52 (by kernel_rfl) rfl #[] rfl zM ?_; (with_reducible refine (pledgeref_None.calls  t231 t232 t233 _ A4.out).mono ?_); rintro e w6 ⟨rfl, hb⟩; refine ⟨_, rfl, ?_⟩; have n0_ := zBB BK230 hb; have n1_ := Aside0.mk (below_step (zH1 HB.out GE230.out) hb); clear BK230; clear HB; have BK230 := n0_; have HB := n1_; clear n0_ n1_; (try clear hb); (try clear hb2); (try clear hk); (try clear hi); have hcz7_0 : w6.cell? ⟨gb230, 0, none⟩ = some (.int .i64 0) := (blk_cell BK230.out 0).trans rfl; have hcz7_1 : w6.cell? ⟨gb230, 1, none⟩ = some (.bool false) := (blk_cell BK230.out 1).trans rfl; have hcz7_2 : w6.cell? ⟨gb230, 2, none⟩ = some (.int .i64 0) := (blk_cell BK230.out 2).trans rfl; have hfz7_0 := blk_frozen BK230.out 0; have hfz7_1 := blk_frozen BK230.out 1; have hfz7_2 := blk_frozen BK230.out 2))
    refine bodyPost_ret (results_cell_row rfl _ _ gb230 66 #[.int .i64 t231, .bool t232, .int .i64 t233] (0, 0) _ rfl (by (with_reducible repeat (first | refine blk_drewN ?_ _ | refine blk_drew ?_ | refine blk_alloc ?_ _)); refine blk_put (cs := #[.int .i64 t231, .bool t232, .int .i64 0]) ?_ 2 _ rfl; (with_reducible repeat (first | refine blk_drewN ?_ _ | refine blk_drew ?_ | refine blk_alloc ?_ _)); refine blk_put (cs := #[.int .i64 t231, .bool false, .int .i64 0]) ?_ 1 _ rfl; (with_reducible repeat (first | refine blk_drewN ?_ _ | refine blk_drew ?_ | refine blk_alloc ?_ _)); refine blk_put (cs := #[.int .i64 0, .bool false, .int .i64 0]) ?_ 0 _ rfl; (with_reducible repeat (first | refine blk_drewN ?_ _ | refine blk_drew ?_ | refine blk_alloc ?_ _)); exact BK230.out) Tryd.underlying66 rfl (by kernel_rfl)) rfl ?_; exact ⟨zE, zH1 HB.out GE230.out⟩
  · rw [if_neg c3] at H
    have c3b0 : (a0 == 0) = false := beq_eq_false_iff_ne.mpr c3; have c3b1 : (a0 != 0) = true := bne_iff_ne.mpr c3; simp only [Option.some.injEq, Prod.mk.injEq] at H; obtain ⟨rfl, rfl, rfl⟩ := H
    go_enter Tryd.func54, Tryd.ntmps54
    go_wp2_with (first | ((with_reducible refine gate_dst (N := 4) rfl ?_); refine box_event ?hg (N := 4) ?hd (cs := #[.int .i64 0, .bool false, .int .i64 0]) (t := 66) ?hr ?_; (case hd => rfl); (case hg => rfl); (case hr => first | (go_simp; done) | (go_simp; rfl)); intro gb230 hg w8 hbox hb; have n0_ := Aside0.mk (below_step (zH HB.out) hb); have n1_ := Aside0.mk (hbox); have n2_ := Aside0.mk (zg hg (below_size (zH HB.out)) : w.heap.size ≤ gb230); have n3_ := Aside0.mk (zg hg (below_size (zH HB.out)) : w.heap.size ≤ gb230); clear HB; have HB := n0_; have BK230 := n1_; have GW230 := n2_; have GE230 := n3_; clear n0_ n1_ n2_ n3_; clear hb hbox hg; have hcz9_0 : w8.cell? ⟨gb230, 0, none⟩ = some (.int .i64 0) := (blk_cell BK230.out 0).trans rfl; have hcz9_1 : w8.cell? ⟨gb230, 1, none⟩ = some (.bool false) := (blk_cell BK230.out 1).trans rfl; have hcz9_2 : w8.cell? ⟨gb230, 2, none⟩ = some (.int .i64 0) := (blk_cell BK230.out 2).trans rfl; have hfz9_0 := blk_frozen BK230.out 0; have hfz9_1 := blk_frozen BK230.out 1; have hfz9_2 := blk_frozen BK230.out 2))
    refine bodyPost_ret (results_cell_row rfl _ _ gb230 66 #[.int .i64 a0, .bool true, .int .i64 a1] (0, 0) _ rfl (by (with_reducible repeat (first | refine blk_drewN ?_ _ | refine blk_drew ?_ | refine blk_alloc ?_ _)); refine blk_put (cs := #[.int .i64 a0, .bool true, .int .i64 0]) ?_ 2 _ rfl; (with_reducible repeat (first | refine blk_drewN ?_ _ | refine blk_drew ?_ | refine blk_alloc ?_ _)); refine blk_put (cs := #[.int .i64 a0, .bool false, .int .i64 0]) ?_ 1 _ rfl; (with_reducible repeat (first | refine blk_drewN ?_ _ | refine blk_drew ?_ | refine blk_alloc ?_ _)); refine blk_put (cs := #[.int .i64 0, .bool false, .int .i64 0]) ?_ 0 _ rfl; (with_reducible repeat (first | refine blk_drewN ?_ _ | refine blk_drew ?_ | refine blk_alloc ?_ _)); exact BK230.out) Tryd.underlying66 rfl (by kernel_rfl)) rfl ?_; exact ⟨zE, zH1 HB.out GE230.out⟩

/-! ### pledgesee_Fault: function 48 -/
def pledgesee_Fault.f (a0 : Option Int) : Option (Int × Bool × Int) := if a0.isNone = true then ((pledgeref_None.f).bind fun bt236 => (some (bt236.1, bt236.2.1, bt236.2.2))) else ((pledgesee_sentinel.f (some (a0.getD 0))).bind fun t239 => ((pledgeref_Bare.f t239).bind fun bt240 => (some (bt240.1, bt240.2.1, bt240.2.2))))
set_option maxHeartbeats 8000000 in
set_option maxRecDepth 100000 in
theorem pledgesee_Fault.calls [Inhabited (Int → Addr)] (a0 : Option Int) (r1 : Int) (r2 : Bool) (r3 : Int) (w : World) (hG : GlobOK w) (h : pledgesee_Fault.f a0 = some (r1, r2, r3)) :
    Calls Tryd.prog 48 #[errW a0] w fun e w' => e = .returned (.agg #[.int .i64 r1, .bool r2, .int .i64 r3]) ∧ Below w.heap.size w w' := by
  have hu66 := Tryd.underlying66; have hu36 := Tryd.underlying36; have hu104 := Tryd.underlying104; have hta : ∀ (v : Value) (W : World), (Instr.typeAssert (.iface 104 v) 36 78 true).run Tryd.prog W = .ok (.tuple #[.pointer none, .bool false]) W := fun v W => by rfl
  have HG := Aside0.mk hG; clear hG; have HB := Aside0.mk (Below.refl w.heap.size w); have H : (if a0.isNone = true then ((pledgeref_None.f).bind fun bt236 => (some (bt236.1, bt236.2.1, bt236.2.2))) else ((pledgesee_sentinel.f (some (a0.getD 0))).bind fun t239 => ((pledgeref_Bare.f t239).bind fun bt240 => (some (bt240.1, bt240.2.1, bt240.2.2))))) = some (r1, r2, r3) := h; clear h
  rcases a0 with _ | q235
  · have H1 : ((pledgeref_None.f).bind fun bt236 => (some (bt236.1, bt236.2.1, bt236.2.2))) = some (r1, r2, r3) := by rw [if_pos (show (none : Option Int).isNone = true by rfl)] at H; exact H
    clear H; have H := H1; clear H1; simp only [errW_none, errW_some]; replace H := Option.bind_eq_some_iff.mp H; obtain ⟨⟨t236, t237, t238⟩, A20, H⟩ := H; replace H : (some (t236, t237, t238)) = some (r1, r2, r3) := H; have A2 := Aside0.mk A20; clear A20; simp only [Option.some.injEq, Prod.mk.injEq] at H; obtain ⟨rfl, rfl, rfl⟩ := H
    go_enter Tryd.func48, Tryd.ntmps48
    go_wp2_with (first | ((with_reducible refine gate_dst (N := 2) rfl ?_); refine box_event ?hg (N := 2) ?hd (cs := #[.int .i64 0, .bool false, .int .i64 0]) (t := 66) ?hr ?_; (case hd => rfl); (case hg => rfl); (case hr => first | (go_simp; done) | (go_simp; rfl)); intro gb234 hg w3 hbox hb; have n0_ := Aside0.mk (below_step (zH HB.out) hb); have n1_ := Aside0.mk (hbox); have n2_ := Aside0.mk (zg hg (below_size (zH HB.out)) : w.heap.size ≤ gb234); have n3_ := Aside0.mk (zg hg (below_size (zH HB.out)) : w.heap.size ≤ gb234); clear HB; have HB := n0_; have BK234 := n1_; have GW234 := n2_; have GE234 := n3_; clear n0_ n1_ n2_ n3_; clear hb hbox hg) | ((with_reducible refine gate_callee (f := 52) rfl ?_); refine goesL_ (some 7) rfl rfl Tryd.func52 (by kernel_rfl) rfl #[] rfl zM ?_; (with_reducible refine (pledgeref_None.calls  t236 t237 t238 _ A2.out).mono ?_); rintro e w4 ⟨rfl, hb⟩; refine ⟨_, rfl, ?_⟩; have n0_ := zBB BK234 hb; have n1_ := Aside0.mk (below_step (zH1 HB.out GE234.out) hb); clear BK234; clear HB; have BK234 := n0_; have HB := n1_; clear n0_ n1_; (try clear hb); (try clear hb2); (try clear hk); (try clear hi); have hcz5_0 : w4.cell? ⟨gb234, 0, none⟩ = some (.int .i64 0) := (blk_cell BK234.out 0).trans rfl; have hcz5_1 : w4.cell? ⟨gb234, 1, none⟩ = some (.bool false) := (blk_cell BK234.out 1).trans rfl; have hcz5_2 : w4.cell? ⟨gb234, 2, none⟩ = some (.int .i64 0) := (blk_cell BK234.out 2).trans rfl; have hfz5_0 := blk_frozen BK234.out 0; have hfz5_1 := blk_frozen BK234.out 1; have hfz5_2 := blk_frozen BK234.out 2))
    refine bodyPost_ret (results_cell_row rfl _ _ gb234 66 #[.int .i64 t236, .bool t237, .int .i64 t238] (0, 0) _ rfl (by (with_reducible repeat (first | refine blk_drewN ?_ _ | refine blk_drew ?_ | refine blk_alloc ?_ _)); refine blk_put (cs := #[.int .i64 t236, .bool t237, .int .i64 0]) ?_ 2 _ rfl; (with_reducible repeat (first | refine blk_drewN ?_ _ | refine blk_drew ?_ | refine blk_alloc ?_ _)); refine blk_put (cs := #[.int .i64 t236, .bool false, .int .i64 0]) ?_ 1 _ rfl; (with_reducible repeat (first | refine blk_drewN ?_ _ | refine blk_drew ?_ | refine blk_alloc ?_ _)); refine blk_put (cs := #[.int .i64 0, .bool false, .int .i64 0]) ?_ 0 _ rfl; (with_reducible repeat (first | refine blk_drewN ?_ _ | refine blk_drew ?_ | refine blk_alloc ?_ _)); exact BK234.out) Tryd.underlying66 rfl (by kernel_rfl)) rfl ?_; exact ⟨zE, zH1 HB.out GE234.out⟩
  · have H1 : ((pledgesee_sentinel.f (some q235)).bind fun t239 => ((pledgeref_Bare.f t239).bind fun bt240 => (some (bt240.1, bt240.2.1, bt240.2.2)))) = some (r1, r2, r3) := by rw [if_neg (show ¬ (some q235).isNone = true by simp)] at H; exact H
    clear H; have H := H1; clear H1; simp only [errW_none, errW_some]; replace H := Option.bind_eq_some_iff.mp H; obtain ⟨t239, A60, H⟩ := H; replace H : ((pledgeref_Bare.f t239).bind fun bt240 => (some (bt240.1, bt240.2.1, bt240.2.2))) = some (r1, r2, r3) := H; have A6 := Aside0.mk A60; clear A60; replace H := Option.bind_eq_some_iff.mp H; obtain ⟨⟨t240, t241, t242⟩, A70, H⟩ := H; replace H : (some (t240, t241, t242)) = some (r1, r2, r3) := H; have A7 := Aside0.mk A70; clear A70; simp only [Option.some.injEq, Prod.mk.injEq] at H; obtain ⟨rfl, rfl, rfl⟩ := H
    go_enter Tryd.func48, Tryd.ntmps48
    go_wp2_with (first | ((with_reducible refine gate_dst (N := 2) rfl ?_); refine box_event ?hg (N := 2) ?hd (cs := #[.int .i64 0, .bool false, .int .i64 0]) (t := 66) ?hr ?_; (case hd => rfl); (case hg => rfl); (case hr => first | (go_simp; done) | (go_simp; rfl)); intro gb234 hg w8 hbox hb; have n0_ := Aside0.mk (below_step (zH HB.out) hb); have n1_ := Aside0.mk (hbox); have n2_ := Aside0.mk (zg hg (below_size (zH HB.out)) : w.heap.size ≤ gb234); have n3_ := Aside0.mk (zg hg (below_size (zH HB.out)) : w.heap.size ≤ gb234); clear HB; have HB := n0_; have BK234 := n1_; have GW234 := n2_; have GE234 := n3_; clear n0_ n1_ n2_ n3_; clear hb hbox hg; have CA6 := fun W hG_ => pledgesee_sentinel.calls (some q235) t239 W hG_ A6.out; try simp only [errW_none, errW_some] at CA6) | (go_at_call 53; (with_reducible refine (CA6 _ ?side1).mono ?_); (case side1 => exact GlobOK.below HG.out (zH1 HB.out GE234.out)); rintro e w9 ⟨rfl, hb⟩; have n0_ := zBB BK234 hb; have n1_ := Aside0.mk (below_step (zH1 HB.out GE234.out) hb); clear BK234; clear HB; have BK234 := n0_; have HB := n1_; clear n0_ n1_; (try clear hb); (try clear hb2); (try clear hk); (try clear hi)) | ((with_reducible refine gate_callee (f := 39) rfl ?_); refine goesL_ (some 17) rfl rfl Tryd.func39 (by kernel_rfl) rfl #[.int .i64 t239] rfl zM ?_; (with_reducible refine (pledgeref_Bare.calls t239 t240 t241 t242 _ A7.out).mono ?_); rintro e w10 ⟨rfl, hb⟩; refine ⟨_, rfl, ?_⟩; have n0_ := zBB BK234 hb; have n1_ := Aside0.mk (below_step (zH1 HB.out GE234.out) hb); clear BK234; clear HB; have BK234 := n0_; have HB := n1_; clear n0_ n1_; (try clear hb); (try clear hb2); (try clear hk); (try clear hi); have hcz11_0 : w10.cell? ⟨gb234, 0, none⟩ = some (.int .i64 0) := (blk_cell BK234.out 0).trans rfl; have hcz11_1 : w10.cell? ⟨gb234, 1, none⟩ = some (.bool false) := (blk_cell BK234.out 1).trans rfl; have hcz11_2 : w10.cell? ⟨gb234, 2, none⟩ = some (.int .i64 0) := (blk_cell BK234.out 2).trans rfl; have hfz11_0 := blk_frozen BK234.out 0; have hfz11_1 := blk_frozen BK234.out 1; have hfz11_2 := blk_frozen BK234.out 2))
    refine bodyPost_ret (results_cell_row rfl _ _ gb234 66 #[.int .i64 t240, .bool t241, .int .i64 t242] (0, 0) _ rfl (by (with_reducible repeat (first | refine blk_drewN ?_ _ | refine blk_drew ?_ | refine blk_alloc ?_ _)); refine blk_put (cs := #[.int .i64 t240, .bool t241, .int .i64 0]) ?_ 2 _ rfl; (with_reducible repeat (first | refine blk_drewN ?_ _ | refine blk_drew ?_ | refine blk_alloc ?_ _)); refine blk_put (cs := #[.int .i64 t240, .bool false, .int .i64 0]) ?_ 1 _ rfl; (with_reducible repeat (first | refine blk_drewN ?_ _ | refine blk_drew ?_ | refine blk_alloc ?_ _)); refine blk_put (cs := #[.int .i64 0, .bool false, .int .i64 0]) ?_ 0 _ rfl; (with_reducible repeat (first | refine blk_drewN ?_ _ | refine blk_drew ?_ | refine blk_alloc ?_ _)); exact BK234.out) Tryd.underlying66 rfl (by kernel_rfl)) rfl ?_; exact ⟨zE, zH1 HB.out GE234.out⟩

/-! ### pledgesee_Same: function 38 -/
def pledgesee_Same.f (a0 : Option Int) (a1_0 : Int) (a1_1 : Bool) (a1_2 : Int) : Option (Bool) := (pledgesee_Fault.f a0).bind fun bt244 => ((pledgeref_SameFault.f bt244.1 bt244.2.1 bt244.2.2 a1_0 a1_1 a1_2).bind fun t247 => (some t247))
set_option maxHeartbeats 8000000 in
set_option maxRecDepth 100000 in
theorem pledgesee_Same.calls [Inhabited (Int → Addr)] (a0 : Option Int) (a1_0 : Int) (a1_1 : Bool) (a1_2 : Int) (r : Bool) (w : World) (hG : GlobOK w) (h : pledgesee_Same.f a0 a1_0 a1_1 a1_2 = some r) :
    Calls Tryd.prog 38 #[errW a0, .agg #[.int .i64 a1_0, .bool a1_1, .int .i64 a1_2]] w fun e w' => e = .returned (.bool r) ∧ Below w.heap.size w w' := by
  have hu66 := Tryd.underlying66; have HG := Aside0.mk hG; clear hG; have HB := Aside0.mk (Below.refl w.heap.size w); have H : ((pledgesee_Fault.f a0).bind fun bt244 => ((pledgeref_SameFault.f bt244.1 bt244.2.1 bt244.2.2 a1_0 a1_1 a1_2).bind fun t247 => (some t247))) = some r := h; clear h; replace H := Option.bind_eq_some_iff.mp H; obtain ⟨⟨t244, t245, t246⟩, A30, H⟩ := H; replace H : ((pledgeref_SameFault.f t244 t245 t246 a1_0 a1_1 a1_2).bind fun t247 => (some t247)) = some r := H; have A3 := Aside0.mk A30; clear A30; replace H := Option.bind_eq_some_iff.mp H; obtain ⟨t247, A40, H⟩ := H; replace H : (some t247) = some r := H; have A4 := Aside0.mk A40; clear A40; obtain rfl := Option.some.inj H
  go_enter Tryd.func38, Tryd.ntmps38
  try go_wp2_with (first | ((with_reducible refine gate_dst (N := 3) rfl ?_); refine box_event ?hg (N := 3) ?hd (cs := #[.int .i64 a1_0, .bool a1_1, .int .i64 a1_2]) (t := 66) ?hr ?_; (case hd => rfl); (case hg => rfl); (case hr => first | (go_simp; done) | (go_simp; rfl)); intro gb243 hg w5 hbox hb; have n0_ := Aside0.mk (below_step (zH HB.out) hb); have n1_ := Aside0.mk (hbox); have n2_ := Aside0.mk (zg hg (below_size (zH HB.out)) : w.heap.size ≤ gb243); have n3_ := Aside0.mk (zg hg (below_size (zH HB.out)) : w.heap.size ≤ gb243); clear HB; have HB := n0_; have BK243 := n1_; have GW243 := n2_; have GE243 := n3_; clear n0_ n1_ n2_ n3_; clear hb hbox hg))
  have n0_ := Aside0.mk (blk_drew BK243.out); have n1_ := Aside0.mk (below_drew1 HB.out); clear BK243; clear HB; have BK243 := n0_; have HB := n1_; clear n0_ n1_; have CA3 := fun W hG_ => pledgesee_Fault.calls a0 t244 t245 t246 W hG_ A3.out
  try simp only [errW_none, errW_some] at CA3
  refine start_ (n := 5) (S := fun w' => w'.cell? ⟨gb243, 0, none⟩ = some (.int .i64 a1_0) ∧ w'.cell? ⟨gb243, 1, none⟩ = some (.bool a1_1) ∧ w'.cell? ⟨gb243, 2, none⟩ = some (.int .i64 a1_2)) (ds := []) #[false, false, false, false, false] (by kernel_rfl) rfl rfl ⟨(blk_cell BK243.out 0).trans rfl, (blk_cell BK243.out 1).trans rfl, (blk_cell BK243.out 2).trans rfl⟩ (fun hHeld => ?_); generalize w5.drew = w6 at BK243 HB hHeld ⊢; refine pure_ (i := 0) (N := some 5) (v := ?_) (a' := ?_) #[true, false, false, false, false] rfl rfl (by kernel_rfl) (fun _ _ _ h => h) (Or.inl ⟨by rfl, ?_⟩) ?_ ?_; rotate_left
  · intro w'
    go_simp
    with_reducible rfl
  rotate_left
  · simp only [Act.put, zq1, zq2, zq3, i64_w, i32_w]
    rfl
  refine take_ (i := 2) (N := some 7) (v := ?_) (a' := ?_) #[true, false, true, false, false] rfl rfl (by kernel_rfl) (fun _ _ _ h => h) (Or.inl ⟨by rfl, ?_⟩) hHeld ?_ ?_; rotate_left
  · rintro w' ⟨s0, s1, s2⟩
    go_simp
    with_reducible rfl
  rotate_left
  · simp only [Act.put, zq1, zq2, zq3, i64_w, i32_w]
    rfl
  refine one_ (i := 1) (N := some 6) #[true, true, true, false, false] rfl rfl (by kernel_rfl) (by decide) (fun K hK => ?_); refine goes_ Tryd.func48 (by kernel_rfl) rfl #[errW a0] (by rfl) rfl rfl zM ?_
  with_reducible refine (CA3 _ ?side1).mono ?_
  (case side1 => exact GlobOK.below HG.out (zH1 HB.out GE243.out))
  rintro e w7 ⟨rfl, hb⟩; refine ⟨_, rfl, ?_⟩; have n0_ := zBB BK243 hb; have n1_ := Aside0.mk (below_step (zH1 HB.out GE243.out) hb); clear BK243; clear HB; have BK243 := n0_; have HB := n1_; clear n0_ n1_; (try clear hb); (try clear hb2); (try clear hk); (try clear hi); refine hK.out _ _ ⟨(blk_cell BK243.out 0).trans rfl, (blk_cell BK243.out 1).trans rfl, (blk_cell BK243.out 2).trans rfl⟩ (fun hHeld => ?_); clear hK K; refine norm_ (a' := ?_) ?_ ?_; rotate_left
  · show Act.put _ (some 6) _ = _
    simp only [Act.put, zq1, zq2, zq3, i64_w, i32_w]; rfl
  refine one_ (i := 3) (N := some 8) #[true, true, true, true, false] rfl rfl (by kernel_rfl) (by decide) (fun K hK => ?_); refine goes_ Tryd.func47 (by kernel_rfl) rfl #[.agg #[.int .i64 t244, .bool t245, .int .i64 t246], .agg #[.int .i64 a1_0, .bool a1_1, .int .i64 a1_2]] (by rfl) rfl rfl zM ?_
  with_reducible refine (pledgeref_SameFault.calls t244 t245 t246 a1_0 a1_1 a1_2 t247 _ A4.out).mono ?_
  rintro e w8 ⟨rfl, hb⟩; refine ⟨_, rfl, ?_⟩; have n0_ := zBB BK243 hb; have n1_ := Aside0.mk (below_step (zH1 HB.out GE243.out) hb); clear BK243; clear HB; have BK243 := n0_; have HB := n1_; clear n0_ n1_; (try clear hb); (try clear hb2); (try clear hk); (try clear hi); refine hK.out _ _ ⟨(blk_cell BK243.out 0).trans rfl, (blk_cell BK243.out 1).trans rfl, (blk_cell BK243.out 2).trans rfl⟩ (fun hHeld => ?_); clear hK K; refine norm_ (a' := ?_) ?_ ?_; rotate_left
  · show Act.put _ (some 8) _ = _
    simp only [Act.put, zq1, zq2, zq3, i64_w, i32_w]; rfl
  refine pure_ (i := 4) (N := some 4) (v := ?_) (a' := ?_) #[true, true, true, true, true] rfl rfl (by kernel_rfl) (fun _ _ _ h => h) (Or.inl ⟨by rfl, ?_⟩) ?_ ?_; rotate_left
  · intro w'
    go_simp
    with_reducible rfl
  rotate_left
  · simp only [Act.put, zq1, zq2, zq3, i64_w, i32_w]
    rfl
  refine done_ (by kernel_rfl) ?_
  try go_wp2
  go_ret
  exact ⟨zE, zH1 HB.out GE243.out⟩

/-! ### pledgesee_Is: function 22 -/
def pledgesee_Is.f (a0 : Option Int) (a1 : Int) : Option (Bool) := (pledgeref_Bare.f a1).bind fun bt248 => ((pledgesee_Same.f a0 bt248.1 bt248.2.1 bt248.2.2).bind fun t251 => (some t251))
set_option maxHeartbeats 8000000 in
set_option maxRecDepth 100000 in
theorem pledgesee_Is.calls [Inhabited (Int → Addr)] (a0 : Option Int) (a1 : Int) (r : Bool) (w : World) (hG : GlobOK w) (h : pledgesee_Is.f a0 a1 = some r) :
    Calls Tryd.prog 22 #[errW a0, .int .i64 a1] w fun e w' => e = .returned (.bool r) ∧ Below w.heap.size w w' := by
  have HG := Aside0.mk hG; clear hG; have HB := Aside0.mk (Below.refl w.heap.size w); have H : ((pledgeref_Bare.f a1).bind fun bt248 => ((pledgesee_Same.f a0 bt248.1 bt248.2.1 bt248.2.2).bind fun t251 => (some t251))) = some r := h; clear h; replace H := Option.bind_eq_some_iff.mp H; obtain ⟨⟨t248, t249, t250⟩, A30, H⟩ := H; replace H : ((pledgesee_Same.f a0 t248 t249 t250).bind fun t251 => (some t251)) = some r := H; have A3 := Aside0.mk A30; clear A30; replace H := Option.bind_eq_some_iff.mp H; obtain ⟨t251, A40, H⟩ := H; replace H : (some t251) = some r := H; have A4 := Aside0.mk A40; clear A40; obtain rfl := Option.some.inj H
  go_enter Tryd.func22, Tryd.ntmps22
  go_wp2_with (first | ((with_reducible refine gate_callee (f := 39) rfl ?_); refine goesL_ (some 7) rfl rfl Tryd.func39 (by kernel_rfl) rfl #[.int .i64 a1] rfl zM ?_; (with_reducible refine (pledgeref_Bare.calls a1 t248 t249 t250 _ A3.out).mono ?_); rintro e w5 ⟨rfl, hb⟩; refine ⟨_, rfl, ?_⟩; have n0_ := Aside0.mk (below_step (zH HB.out) hb); clear HB; have HB := n0_; clear n0_; (try clear hb); (try clear hb2); (try clear hk); (try clear hi); have CA4 := fun W hG_ => pledgesee_Same.calls a0 t248 t249 t250 t251 W hG_ A4.out; try simp only [errW_none, errW_some] at CA4) | (go_at_call 38; (with_reducible refine (CA4 _ ?side1).mono ?_); (case side1 => exact GlobOK.below HG.out (zH HB.out)); rintro e w6 ⟨rfl, hb⟩; have n0_ := Aside0.mk (below_step (zH HB.out) hb); clear HB; have HB := n0_; clear n0_; (try clear hb); (try clear hb2); (try clear hk); (try clear hi)))
  go_ret
  exact ⟨zE, zH HB.out⟩

/-! ### pledgeref18_Fits: function 23 -/
def pledgeref18_Fits.f (k : Nat) (l0_0 : List (S25)) (l0_1 : List Int) (a0_2 : Int) (l1 : List Int) : Option (Bool) := (pledgeref18_Worth.f k l0_0 l0_1 a0_2 l1).bind fun bt253 => (if bt253.2 = true then (some (decide (bt253.1 ≥ a0_2))) else (some false))
theorem pledgeref18_Fits.mono : ∀ a0 a1 a2 a3 k, LeO (pledgeref18_Fits.f k a0 a1 a2 a3) (pledgeref18_Fits.f (k + 1) a0 a1 a2 a3) := by
  intro a0 a1 a2 a3 k; unfold pledgeref18_Fits.f
  repeat' first
      | (with_reducible exact pledgeref18_Worth.mono _ _ _ _ _)
      | (with_reducible exact LeO.refl _)
      | (with_reducible exact LeO.none _)
      | (with_reducible refine LeO.ite ?_ ?_)
      | (with_reducible refine LeO.bind ?_ (fun _ => ?_))
      | exact pledgeref18_Worth.mono _ _ _ _ _
      | exact LeO.none _
      | refine LeO.ite ?_ ?_
      | refine LeO.bind ?_ (fun _ => ?_)
set_option maxHeartbeats 8000000 in
set_option maxRecDepth 100000 in
theorem pledgeref18_Fits.calls [Inhabited (Int → Addr)] (k : Nat) (A0_0 : Option Addr) (c0_0 : Nat) (l0_0 : List (S25)) (A0_1 : Option Addr) (c0_1 : Nat) (l0_1 : List Int) (a0_2 : Int) (A1 : Option Addr) (c1 : Nat) (l1 : List Int) (r : Bool) (w : World) (hr0_0 : Kd.C k25 w A0_0 l0_0.length l0_0) (hc0_0 : l0_0.length ≤ c0_0) (hr0_1 : Kd.C (Kd.int .i64) w A0_1 l0_1.length l0_1) (hc0_1 : l0_1.length ≤ c0_1) (hr1 : Kd.C (Kd.int .i64) w A1 l1.length l1) (hc1 : l1.length ≤ c1) (h : pledgeref18_Fits.f k l0_0 l0_1 a0_2 l1 = some r) :
    Calls Tryd.prog 23 #[.agg #[.slice A0_0 l0_0.length c0_0, .slice A0_1 l0_1.length c0_1, .int .i64 a0_2], .slice A1 l1.length c1] w fun e w' => e = .returned (.bool r) ∧ Below w.heap.size w w' := by
  have hu45 := Tryd.underlying45; have HR0_0 := Aside0.mk hr0_0; have HC0_0 := Aside0.mk hc0_0; clear hr0_0 hc0_0; have HR0_1 := Aside0.mk hr0_1; have HC0_1 := Aside0.mk hc0_1; clear hr0_1 hc0_1; have HR1 := Aside0.mk hr1; have HC1 := Aside0.mk hc1; clear hr1 hc1; have HB := Aside0.mk (Below.refl w.heap.size w); have H : ((pledgeref18_Worth.f k l0_0 l0_1 a0_2 l1).bind fun bt253 => (if bt253.2 = true then (some (decide (bt253.1 ≥ a0_2))) else (some false))) = some r := h; clear h; replace H := Option.bind_eq_some_iff.mp H; obtain ⟨⟨t253, t254⟩, A30, H⟩ := H; replace H : (if t254 = true then (some (decide (t253 ≥ a0_2))) else (some false)) = some r := H; have A3 := Aside0.mk A30; clear A30; by_cases c4 : t254 = true
  · subst c4
    have H1 : (some (decide (t253 ≥ a0_2))) = some r := by rw [if_pos rfl] at H; exact H
    clear H; have H := H1; clear H1; obtain rfl := Option.some.inj H
    go_enter Tryd.func23, Tryd.ntmps23
    go_wp2_with (first | ((with_reducible refine gate_dst (N := 2) rfl ?_); refine box_event ?hg (N := 2) ?hd (cs := #[.slice A0_0 l0_0.length c0_0, .slice A0_1 l0_1.length c0_1, .int .i64 a0_2]) (t := 45) ?hr ?_; (case hd => rfl); (case hg => rfl); (case hr => first | (go_simp; done) | (go_simp; rfl)); intro gb252 hg w5 hbox hb; have n0_ := Aside0.mk (below_step (zH HB.out) hb); have n1_ := Aside0.mk (hbox); have n2_ := Aside0.mk (zg hg (below_size (zH HB.out)) : w.heap.size ≤ gb252); have n3_ := Aside0.mk (zg hg (below_size (zH HB.out)) : w.heap.size ≤ gb252); clear HB; have HB := n0_; have BK252 := n1_; have GW252 := n2_; have GE252 := n3_; clear n0_ n1_ n2_ n3_; clear hb hbox hg; have hcz6_0 : w5.cell? ⟨gb252, 0, none⟩ = some (.slice A0_0 l0_0.length c0_0) := (blk_cell BK252.out 0).trans rfl; have hcz6_1 : w5.cell? ⟨gb252, 1, none⟩ = some (.slice A0_1 l0_1.length c0_1) := (blk_cell BK252.out 1).trans rfl; have hcz6_2 : w5.cell? ⟨gb252, 2, none⟩ = some (.int .i64 a0_2) := (blk_cell BK252.out 2).trans rfl; have hfz6_0 := blk_frozen BK252.out 0; have hfz6_1 := blk_frozen BK252.out 1; have hfz6_2 := blk_frozen BK252.out 2) | ((with_reducible refine gate_callee (f := 20) rfl ?_); refine goesL_ (some 10) rfl rfl Tryd.func20 (by kernel_rfl) rfl #[.agg #[.slice A0_0 l0_0.length c0_0, .slice A0_1 l0_1.length c0_1, .int .i64 a0_2], .slice A1 l1.length c1] rfl zM ?_; (with_reducible refine (pledgeref18_Worth.calls k _ _ l0_0 _ _ l0_1 a0_2 _ _ l1 t253 true _ ?side1 ?side2 ?side3 ?side4 ?side5 ?side6 A3.out).mono ?_); (case side1 => exact zC HR0_0.out HB.out); (case side2 => exact HC0_0.out); (case side3 => exact zC HR0_1.out HB.out); (case side4 => exact HC0_1.out); (case side5 => exact zC HR1.out HB.out); (case side6 => exact HC1.out); rintro e w7 ⟨rfl, hb⟩; refine ⟨_, rfl, ?_⟩; have n0_ := zBB BK252 hb; have n1_ := Aside0.mk (below_step (zH1 HB.out GE252.out) hb); clear BK252; clear HB; have BK252 := n0_; have HB := n1_; clear n0_ n1_; (try clear hb); (try clear hb2); (try clear hk); (try clear hi); have hcz8_0 : w7.cell? ⟨gb252, 0, none⟩ = some (.slice A0_0 l0_0.length c0_0) := (blk_cell BK252.out 0).trans rfl; have hcz8_1 : w7.cell? ⟨gb252, 1, none⟩ = some (.slice A0_1 l0_1.length c0_1) := (blk_cell BK252.out 1).trans rfl; have hcz8_2 : w7.cell? ⟨gb252, 2, none⟩ = some (.int .i64 a0_2) := (blk_cell BK252.out 2).trans rfl; have hfz8_0 := blk_frozen BK252.out 0; have hfz8_1 := blk_frozen BK252.out 1; have hfz8_2 := blk_frozen BK252.out 2))
    go_ret
    exact ⟨zE, zH1 HB.out GE252.out⟩
  · replace c4 := Bool.eq_false_iff.mpr c4
    subst c4; have H1 : (some false) = some r := by rw [if_neg (show ¬ (false = true) by decide)] at H; exact H
    clear H; have H := H1; clear H1; obtain rfl := Option.some.inj H
    go_enter Tryd.func23, Tryd.ntmps23
    go_wp2_with (first | ((with_reducible refine gate_dst (N := 2) rfl ?_); refine box_event ?hg (N := 2) ?hd (cs := #[.slice A0_0 l0_0.length c0_0, .slice A0_1 l0_1.length c0_1, .int .i64 a0_2]) (t := 45) ?hr ?_; (case hd => rfl); (case hg => rfl); (case hr => first | (go_simp; done) | (go_simp; rfl)); intro gb252 hg w9 hbox hb; have n0_ := Aside0.mk (below_step (zH HB.out) hb); have n1_ := Aside0.mk (hbox); have n2_ := Aside0.mk (zg hg (below_size (zH HB.out)) : w.heap.size ≤ gb252); have n3_ := Aside0.mk (zg hg (below_size (zH HB.out)) : w.heap.size ≤ gb252); clear HB; have HB := n0_; have BK252 := n1_; have GW252 := n2_; have GE252 := n3_; clear n0_ n1_ n2_ n3_; clear hb hbox hg; have hcz10_0 : w9.cell? ⟨gb252, 0, none⟩ = some (.slice A0_0 l0_0.length c0_0) := (blk_cell BK252.out 0).trans rfl; have hcz10_1 : w9.cell? ⟨gb252, 1, none⟩ = some (.slice A0_1 l0_1.length c0_1) := (blk_cell BK252.out 1).trans rfl; have hcz10_2 : w9.cell? ⟨gb252, 2, none⟩ = some (.int .i64 a0_2) := (blk_cell BK252.out 2).trans rfl; have hfz10_0 := blk_frozen BK252.out 0; have hfz10_1 := blk_frozen BK252.out 1; have hfz10_2 := blk_frozen BK252.out 2) | ((with_reducible refine gate_callee (f := 20) rfl ?_); refine goesL_ (some 10) rfl rfl Tryd.func20 (by kernel_rfl) rfl #[.agg #[.slice A0_0 l0_0.length c0_0, .slice A0_1 l0_1.length c0_1, .int .i64 a0_2], .slice A1 l1.length c1] rfl zM ?_; (with_reducible refine (pledgeref18_Worth.calls k _ _ l0_0 _ _ l0_1 a0_2 _ _ l1 t253 false _ ?side1 ?side2 ?side3 ?side4 ?side5 ?side6 A3.out).mono ?_); (case side1 => exact zC HR0_0.out HB.out); (case side2 => exact HC0_0.out); (case side3 => exact zC HR0_1.out HB.out); (case side4 => exact HC0_1.out); (case side5 => exact zC HR1.out HB.out); (case side6 => exact HC1.out); rintro e w11 ⟨rfl, hb⟩; refine ⟨_, rfl, ?_⟩; have n0_ := zBB BK252 hb; have n1_ := Aside0.mk (below_step (zH1 HB.out GE252.out) hb); clear BK252; clear HB; have BK252 := n0_; have HB := n1_; clear n0_ n1_; (try clear hb); (try clear hb2); (try clear hk); (try clear hi)))
    go_ret
    exact ⟨zE, zH1 HB.out GE252.out⟩

/-! ### pledgeref18_Full: function 40 -/
def pledgeref18_Full.l0 : Nat → List Int → Int → List (S25) → List Int → Int → Option (List Int)
  | 0, _, _, _, _, _ => none
  | k + 1, x3, x4, x256000, x256001, x256002 => if x4 < (x256000.length : Int) then (if 0 ≤ x4 then (if x3.length < 17592186044416 then (pledgeref18_Full.l0 k (x3 ++ [(rd_T25 x256000 x4).f0]) (wrap64 (x4 + 1)) x256000 x256001 x256002) else (none)) else (none)) else (some x3)
def pledgeref18_Full.f (k : Nat) (l0_0 : List (S25)) (l0_1 : List Int) (a0_2 : Int) : Option (List Int) := pledgeref18_Full.l0 k ([] : List Int) 0 l0_0 l0_1 a0_2
theorem pledgeref18_Full.mono_l : ∀ k, (∀ y0 y1 y2 y3 y4, LeO (pledgeref18_Full.l0 k y0 y1 y2 y3 y4) (pledgeref18_Full.l0 (k + 1) y0 y1 y2 y3 y4))
  | 0 => fun _ _ _ _ _ r h => by simp [pledgeref18_Full.l0] at h
  | k + 1 => by
    have ih0 := pledgeref18_Full.mono_l k
    · intro y0 y1 y2 y3 y4
      unfold pledgeref18_Full.l0
      repeat' first
      | (with_reducible exact ih0 _ _ _ _ _)
      | (with_reducible exact LeO.refl _)
      | (with_reducible exact LeO.none _)
      | (with_reducible refine LeO.ite ?_ ?_)
      | (with_reducible refine LeO.bind ?_ (fun _ => ?_))
      | exact ih0 _ _ _ _ _
      | exact LeO.none _
      | refine LeO.ite ?_ ?_
      | refine LeO.bind ?_ (fun _ => ?_)
theorem pledgeref18_Full.mono : ∀ a0 a1 a2 k, LeO (pledgeref18_Full.f k a0 a1 a2) (pledgeref18_Full.f (k + 1) a0 a1 a2) := by
  intro a0 a1 a2 k; have ih0 := pledgeref18_Full.mono_l k; unfold pledgeref18_Full.f
  repeat' first
      | (with_reducible exact ih0 _ _ _ _ _)
      | (with_reducible exact LeO.refl _)
      | (with_reducible exact LeO.none _)
      | (with_reducible refine LeO.ite ?_ ?_)
      | (with_reducible refine LeO.bind ?_ (fun _ => ?_))
      | exact ih0 _ _ _ _ _
      | exact LeO.none _
      | refine LeO.ite ?_ ?_
      | refine LeO.bind ?_ (fun _ => ?_)
set_option maxHeartbeats 8000000 in
set_option maxRecDepth 100000 in
theorem pledgeref18_Full.calls [Inhabited (Int → Addr)] (k : Nat) (A0_0 : Option Addr) (c0_0 : Nat) (l0_0 : List (S25)) (A0_1 : Option Addr) (c0_1 : Nat) (l0_1 : List Int) (a0_2 : Int) (r : List Int) (w : World) (hr0_0 : Kd.C k25 w A0_0 l0_0.length l0_0) (hc0_0 : l0_0.length ≤ c0_0) (hr0_1 : Kd.C (Kd.int .i64) w A0_1 l0_1.length l0_1) (hc0_1 : l0_1.length ≤ c0_1) (h : pledgeref18_Full.f k l0_0 l0_1 a0_2 = some r) :
    Calls Tryd.prog 40 #[.agg #[.slice A0_0 l0_0.length c0_0, .slice A0_1 l0_1.length c0_1, .int .i64 a0_2]] w fun e w' => ∃ v0_ : Value, e = .returned (v0_) ∧ Kd.R (Kd.int .i64) 3 w' w.heap.size (fun _ => True) v0_ r ∧ Below w.heap.size w w' := by
  have hu45 := Tryd.underlying45; have HR0_0 := Aside0.mk hr0_0; have HC0_0 := Aside0.mk hc0_0; clear hr0_0 hc0_0; have HR0_1 := Aside0.mk hr0_1; have HC0_1 := Aside0.mk hc0_1; clear hr0_1 hc0_1; have HB := Aside0.mk (Below.refl w.heap.size w); have H : (pledgeref18_Full.l0 k ([] : List Int) 0 l0_0 l0_1 a0_2) = some r := h; clear h; have H' := Aside0.mk H; clear H
  go_enter Tryd.func40, Tryd.ntmps40
  go_wp2_with (first | ((with_reducible refine gate_dst (N := 1) rfl ?_); refine box_event ?hg (N := 1) ?hd (cs := #[.slice A0_0 l0_0.length c0_0, .slice A0_1 l0_1.length c0_1, .int .i64 a0_2]) (t := 45) ?hr ?_; (case hd => rfl); (case hg => rfl); (case hr => first | (go_simp; done) | (go_simp; rfl)); intro gb255 hg w2 hbox hb; have n0_ := Aside0.mk (below_step (zH HB.out) hb); have n1_ := Aside0.mk (hbox); have n2_ := Aside0.mk (zg hg (below_size (zH HB.out)) : w.heap.size ≤ gb255); have n3_ := Aside0.mk (zg hg (below_size (zH HB.out)) : w.heap.size ≤ gb255); clear HB; have HB := n0_; have BK255 := n1_; have GW255 := n2_; have GE255 := n3_; clear n0_ n1_ n2_ n3_; clear hb hbox hg))
  go_loopg [3, 4] k (fun kq v3 v4 w' => ∃ (x3_1 : List Int) (x4_1 : Int), v4 = .int .i64 x4_1 ∧ Aside0 (pledgeref18_Full.l0 kq x3_1 x4_1 l0_0 l0_1 a0_2 = some r) ∧ Aside0 (kq ≤ k) ∧ Aside0 (Kd.R (Kd.int .i64) 3 w' w.heap.size (fun _ => True) v3 x3_1) ∧ Aside0 (w'.heap[gb255]? = some (.cells #[(.slice A0_0 l0_0.length c0_0), (.slice A0_1 l0_1.length c0_1), .int .i64 a0_2] 45 (0, 0))) ∧ Aside0 (Below w.heap.size w w'))
  case atStart => exact ⟨(([] : List Int)), (0), zS, H', ⟨Nat.le_refl _⟩, ⟨by first | exact Kd.R_nil _ _ _ _ _ | exact Kd.N_nil _ _ _ _ _ | exact Kd.V_nil _ _ _ _ _ | exact Kd.Q_nil _ _ _ _ _ | exact Kd.S_nil _ _ _ _ _⟩, ⟨zB BK255.out⟩, ⟨zH1 HB.out GE255.out⟩⟩
  case round =>
    clear H'
    try clear p2
    obtain ⟨x3_1, x4_1, rfl, HA, HK1, HO_3, BK255, HB⟩ := hrel
    cases gk with
    | zero => exact absurd HA.out (by simp [pledgeref18_Full.l0])
    | succ k1 =>
      have H := HA.out; clear HA; simp only [pledgeref18_Full.l0] at H; by_cases c3 : x4_1 < (l0_0.length : Int)
      · rw [if_pos c3] at H
        have c3b0 : decide (x4_1 < (l0_0.length : Int)) = true := decide_eq_true c3; clear c3; by_cases c4 : 0 ≤ x4_1
        · rw [if_pos c4] at H
          have c4b0 : decide (0 ≤ x4_1) = true := decide_eq_true c4; clear c4; by_cases c5 : x3_1.length < 17592186044416
          · rw [if_pos c5] at H
            have LMc5 := Aside0.mk c5; clear c5; obtain ⟨y257, hy257⟩ : ∃ y_ : List Int, y_ = (x3_1 ++ [(rd_T25 l0_0 x4_1).f0]) := ⟨_, rfl⟩; replace H : (pledgeref18_Full.l0 k1 y257 (wrap64 (x4_1 + 1)) l0_0 l0_1 a0_2) = some r := by first | (rw [hy257]; with_reducible exact H) | (have H2_ := (Option.bind_some _ _).symm.trans H; rw [hy257]; with_reducible exact H2_) | (have H2_ := (Option.bind_some _ _).symm.trans H; with_reducible exact H2_) | with_reducible exact H | (rw [hy257]; exact H) | exact H
            have Ny257 := Aside0.mk hy257; clear hy257; have H' := Aside0.mk H; clear H; have hcz6_0 : wr.cell? ⟨gb255, 0, none⟩ = some (.slice A0_0 l0_0.length c0_0) := (blk_cell BK255.out 0).trans rfl; have hcz6_1 : wr.cell? ⟨gb255, 1, none⟩ = some (.slice A0_1 l0_1.length c0_1) := (blk_cell BK255.out 1).trans rfl; have hcz6_2 : wr.cell? ⟨gb255, 2, none⟩ = some (.int .i64 a0_2) := (blk_cell BK255.out 2).trans rfl; have hfz6_0 := blk_frozen BK255.out 0; have hfz6_1 := blk_frozen BK255.out 1; have hfz6_2 := blk_frozen BK255.out 2; have p256 : 0 ≤ (x4_1 : Int) := of_decide_eq_true zA; have q256 : x4_1 < (l0_0.length : Int) := of_decide_eq_true zA; obtain ⟨ad256, e256, hx256_0, hx256_1, hx256_2, hx256_3⟩ := at_T25 HR0_0.out x4_1 p256 q256
            cases e256
            replace hx256_0 := (HB.out.cell (World.block_lt_of_cell? w _ hx256_0)).trans hx256_0; replace hx256_1 := (HB.out.cell (World.block_lt_of_cell? w _ hx256_1)).trans hx256_1; replace hx256_2 := (HB.out.cell (World.block_lt_of_cell? w _ hx256_2)).trans hx256_2; replace hx256_3 := (HB.out.cell (World.block_lt_of_cell? w _ hx256_3)).trans hx256_3; replace p256 := eq_true p256; replace q256 := eq_true q256
            go_wp2_with (first | ((with_reducible refine gate_builtin (b := .append) (xs := #[.tmp 12, .tmp 19]) rfl ?_); at_builtin; refine Kd.R_append (Kd.int .i64) (w0 := w) w.heap.size rfl (.tmp 12) (.tmp 19) 30 3 (.int .i64 0) 8 rfl Tryd.underlying30 info3 rfl (by decide) (by omega) u3 x3_1 ((rd_T25 l0_0 x4_1).f0) [.int .i64 ((rd_T25 l0_0 x4_1).f0)] (fun _ => True) (fun _ => False) rfl rfl ?aP (fun _ hk => hk.elim) ?aF ?aO ?aB ?aS ?aL ?_; (case aP => exact rfl); (case aB => exact (zH1 HB.out GE255.out)); (case aF => exact (fun _ _ => trivial)); (case aO => exact (zR HO_3.out)); (case aS => exact (below_size (zH1 HB.out GE255.out))); (case aL => have := LMc5.out; omega); intro v258 w7 ho hb hg hat; rw [← Ny257.out] at ho; have n0_ := Aside0.mk (blk_grown (g := gb255) (o := .cells #[.slice (some ad256) l0_0.length c0_0, .slice A0_1 l0_1.length c0_1, .int .i64 a0_2] 45 (0, 0)) (zB BK255.out) hg (Kd.R_ne HO_3.out BK255.out (by decide))); have n1_ := Aside0.mk (hb); have n2_ := Aside0.mk (ho); clear BK255; clear HB; clear HO_3; have BK255 := n0_; have HB := n1_; have HO259 := n2_; clear n0_ n1_ n2_; clear ho hb hg hat))
            go_roundg k1
            case measure => have := HK1.out; omega
            case rel => exact ⟨(y257), (wrap64 (x4_1 + 1)), zS, H', ⟨by have := HK1.out; omega⟩, ⟨by (with_reducible repeat (first | apply Kd.R_alloc | apply Kd.R_drewN | apply Kd.R_drew)); exact HO259.out⟩, ⟨zB BK255.out⟩, ⟨zH1 HB.out GE255.out⟩⟩
          · rw [if_neg c5] at H
            exact absurd H (by simp)
        · rw [if_neg c4] at H
          exact absurd H (by simp)
      · rw [if_neg c3] at H
        have c3b0 : decide (x4_1 < (l0_0.length : Int)) = false := decide_eq_false c3; clear c3; obtain rfl := Option.some.inj H; have hcz8_0 : wr.cell? ⟨gb255, 0, none⟩ = some (.slice A0_0 l0_0.length c0_0) := (blk_cell BK255.out 0).trans rfl; have hcz8_1 : wr.cell? ⟨gb255, 1, none⟩ = some (.slice A0_1 l0_1.length c0_1) := (blk_cell BK255.out 1).trans rfl; have hcz8_2 : wr.cell? ⟨gb255, 2, none⟩ = some (.int .i64 a0_2) := (blk_cell BK255.out 2).trans rfl; have hfz8_0 := blk_frozen BK255.out 0; have hfz8_1 := blk_frozen BK255.out 1; have hfz8_2 := blk_frozen BK255.out 2
        go_wp2
        go_ret
        exact ⟨_, zE, by (with_reducible repeat (first | apply Kd.R_alloc | apply Kd.R_drewN | apply Kd.R_drew)); exact HO_3.out, zH1 HB.out GE255.out⟩

/-! ### pledgeref18_Most: function 24 -/
def pledgeref18_Most.f (k : Nat) (l0_0 : List (S25)) (l0_1 : List Int) (a0_2 : Int) : Option (Int) := (pledgeref18_Full.f k l0_0 l0_1 a0_2).bind fun t261 => ((pledgeref18_Worth.f k l0_0 l0_1 a0_2 t261).bind fun bt264 => (some bt264.1))
theorem pledgeref18_Most.mono : ∀ a0 a1 a2 k, LeO (pledgeref18_Most.f k a0 a1 a2) (pledgeref18_Most.f (k + 1) a0 a1 a2) := by
 intro a0 a1 a2 k; unfold pledgeref18_Most.f
 repeat' first
   | (with_reducible exact pledgeref18_Full.mono _ _ _ _)
   | (with_reducible exact pledgeref18_Worth.mono _ _ _ _ _)
   | (with_reducible exact LeO.refl _)
   | (with_reducible exact LeO.none _)
   | (with_reducible refine LeO.ite ?_ ?_)
   | (with_reducible refine LeO.bind ?_ (fun _ => ?_))
   | exact pledgeref18_Full.mono _ _ _ _
   | exact pledgeref18_Worth.mono _ _ _ _ _
   | exact LeO.none _
   | refine LeO.ite ?_ ?_
   | refine LeO.bind ?_ (fun _ => ?_)
def pledgeref18_Most.T1 : Bool × List (List Nat × List Nat) := (true, [([], []), ([], []), ([1], [1]), ([0, 2, 2], [0, 2]), ([3], [3]), ([4], [4]), ([4], [4]), ([5, 3, 0, 1, 2, 3, 4, 5], [5]), ([6, 7, 0, 1, 2, 3, 4, 5, 6, 7], [6])])
def pledgeref18_Most.B1 : List Nat := [0, 0, 2, 7, 15, 31, 31, 63, 255]
theorem pledgeref18_Most.tab1 : rtab .any (opsOf Tryd.f24 1) = pledgeref18_Most.T1 := by kernel_rfl
theorem pledgeref18_Most.bits1 : waitsOk pledgeref18_Most.T1.2 pledgeref18_Most.B1 = true := by kernel_rfl
set_option maxHeartbeats 8000000 in
set_option maxRecDepth 100000 in
theorem pledgeref18_Most.calls [Inhabited (Int → Addr)] (k : Nat) (A0_0 : Option Addr) (c0_0 : Nat) (l0_0 : List (S25)) (A0_1 : Option Addr) (c0_1 : Nat) (l0_1 : List Int) (a0_2 : Int) (r : Int) (w : World) (hr0_0 : Kd.C k25 w A0_0 l0_0.length l0_0) (hc0_0 : l0_0.length ≤ c0_0) (hr0_1 : Kd.C (Kd.int .i64) w A0_1 l0_1.length l0_1) (hc0_1 : l0_1.length ≤ c0_1) (h : pledgeref18_Most.f k l0_0 l0_1 a0_2 = some r) :
  Calls Tryd.prog 24 #[.agg #[.slice A0_0 l0_0.length c0_0, .slice A0_1 l0_1.length c0_1, .int .i64 a0_2]] w fun e w' => e = .returned (.int .i64 r) ∧ Below w.heap.size w w' := by
 have hu45 := Tryd.underlying45; have HR0_0 := Aside0.mk hr0_0; have HC0_0 := Aside0.mk hc0_0; clear hr0_0 hc0_0; have HR0_1 := Aside0.mk hr0_1; have HC0_1 := Aside0.mk hc0_1; clear hr0_1 hc0_1; have HB := Aside0.mk (Below.refl w.heap.size w); have H : ((pledgeref18_Full.f k l0_0 l0_1 a0_2).bind fun t261 => ((pledgeref18_Worth.f k l0_0 l0_1 a0_2 t261).bind fun bt264 => (some bt264.1))) = some r := h; clear h; replace H := Option.bind_eq_some_iff.mp H; obtain ⟨t261, A20, H⟩ := H; replace H : ((pledgeref18_Worth.f k l0_0 l0_1 a0_2 t261).bind fun bt264 => (some bt264.1)) = some r := H; have A2 := Aside0.mk A20; clear A20; replace H := Option.bind_eq_some_iff.mp H; obtain ⟨⟨t264, t265⟩, A30, H⟩ := H; replace H : (some t264) = some r := H; have A3 := Aside0.mk A30; clear A30; obtain rfl := Option.some.inj H
 go_enter Tryd.func24, Tryd.ntmps24
 try go_wp2_with (first | ((with_reducible refine gate_dst (N := 1) rfl ?_); refine box_event ?hg (N := 1) ?hd (cs := #[.slice A0_0 l0_0.length c0_0, .slice A0_1 l0_1.length c0_1, .int .i64 a0_2]) (t := 45) ?hr ?_; (case hd => rfl); (case hg => rfl); (case hr => first | (go_simp; done) | (go_simp; rfl)); intro gb260 hg w4 hbox hb; have n0_ := Aside0.mk (below_step (zH HB.out) hb); have n1_ := Aside0.mk (hbox); have n2_ := Aside0.mk (zg hg (below_size (zH HB.out)) : w.heap.size ≤ gb260); have n3_ := Aside0.mk (zg hg (below_size (zH HB.out)) : w.heap.size ≤ gb260); clear HB; have HB := n0_; have BK260 := n1_; have GW260 := n2_; have GE260 := n3_; clear n0_ n1_ n2_ n3_; clear hb hbox hg))
 have n0_ := Aside0.mk (blk_drew BK260.out); have n1_ := Aside0.mk (below_drew1 HB.out); clear BK260; clear HB; have BK260 := n0_; have HB := n1_; clear n0_ n1_; refine start_ (n := 9) (S := fun w' => w'.cell? ⟨gb260, 0, none⟩ = some (.slice A0_0 l0_0.length c0_0) ∧ w'.cell? ⟨gb260, 1, none⟩ = some (.slice A0_1 l0_1.length c0_1) ∧ w'.cell? ⟨gb260, 2, none⟩ = some (.int .i64 a0_2)) (ds := []) #[false, false, false, false, false, false, false, false, false] (by kernel_rfl) rfl rfl ⟨(blk_cell BK260.out 0).trans rfl, (blk_cell BK260.out 1).trans rfl, (blk_cell BK260.out 2).trans rfl⟩ (fun hHeld => ?_); refine with_tabW pledgeref18_Most.tab1 pledgeref18_Most.bits1 (fun HT_ HW_ => ?_); generalize w4.drew = w5 at BK260 HB hHeld ⊢; refine take_ (i := 0) (N := some 6) (v := ?_) (a' := ?_) #[true, false, false, false, false, false, false, false, false] rfl rfl (take_ofW HT_.out HW_.out (by kernel_rfl)) (fun _ _ _ h => h) (Or.inl ⟨by rfl, ?_⟩) hHeld ?_ ?_; rotate_left
 ·
  rintro w' ⟨s0, s1, s2⟩; go_simp
  with_reducible rfl
 rotate_left
 · simp only [Act.put, zq1, zq2, zq3, i64_w, i32_w]; rfl
 refine take_ (i := 1) (N := some 7) (v := ?_) (a' := ?_) #[true, true, false, false, false, false, false, false, false] rfl rfl (take_ofW HT_.out HW_.out (by kernel_rfl)) (fun _ _ _ h => h) (Or.inl ⟨by rfl, ?_⟩) hHeld ?_ ?_; rotate_left
 ·
  rintro w' ⟨s0, s1, s2⟩; go_simp
  with_reducible rfl
 rotate_left
 · simp only [Act.put, zq1, zq2, zq3, i64_w, i32_w]; rfl
 refine one_ (i := 2) (N := some 8) #[true, true, true, false, false, false, false, false, false] rfl rfl (one_of HT_.out (by kernel_rfl)) (by decide) (fun K hK => ?_); refine goes_ Tryd.func40 (by kernel_rfl) rfl #[.agg #[.slice A0_0 l0_0.length c0_0, .slice A0_1 l0_1.length c0_1, .int .i64 a0_2]] (by rfl) rfl rfl zM ?_
 with_reducible refine (pledgeref18_Full.calls k _ _ l0_0 _ _ l0_1 a0_2 t261 _ ?side1 ?side2 ?side3 ?side4 A2.out).mono ?_
 (case side1 => exact zC HR0_0.out HB.out)
 (case side2 => exact HC0_0.out)
 (case side3 => exact zC HR0_1.out HB.out)
 (case side4 => exact HC0_1.out)
 rintro e w6 ⟨v262, rfl, ho0, hb⟩; refine ⟨_, rfl, ?_⟩; have n0_ := Aside0.mk (Kd.R_lower ho0 (below_size (zH1 HB.out GE260.out))); have n1_ := zBB BK260 hb; have n2_ := Aside0.mk (below_step (zH1 HB.out GE260.out) hb); clear BK260; clear HB; have HO263 := n0_; have BK260 := n1_; have HB := n2_; clear n0_ n1_ n2_; (try clear hb); (try clear hb2); (try clear hk); (try clear hi); (try clear ho0); obtain ⟨Ao7, co7, eo7⟩ := Kd.R_slice HO263.out
 (first | subst eo7 | (injection eo7 with f1_ f2_ f3_; have f4_ := f1_.symm; have f5_ := f3_.symm; clear f1_ f2_ f3_; subst f4_; subst f5_))
 refine hK.out _ _ ⟨(blk_cell BK260.out 0).trans rfl, (blk_cell BK260.out 1).trans rfl, (blk_cell BK260.out 2).trans rfl⟩ (fun hHeld => ?_); clear hK K; refine norm_ (a' := ?_) ?_ ?_; rotate_left
 ·
  show Act.put _ (some 8) _ = _
  simp only [Act.put, zq1, zq2, zq3, i64_w, i32_w]; rfl
 refine one_ (i := 3) (N := some 9) #[true, true, true, true, false, false, false, false, false] rfl rfl (one_of HT_.out (by kernel_rfl)) (by decide) (fun K hK => ?_); refine goes_ Tryd.func20 (by kernel_rfl) rfl #[.agg #[.slice A0_0 l0_0.length c0_0, .slice A0_1 l0_1.length c0_1, .int .i64 a0_2], .slice Ao7 t261.length co7] (by rfl) rfl rfl zM ?_
 with_reducible refine (pledgeref18_Worth.calls k _ _ l0_0 _ _ l0_1 a0_2 _ _ t261 t264 t265 _ ?side1 ?side2 ?side3 ?side4 ?side5 ?side6 A3.out).mono ?_
 (case side1 => exact zC HR0_0.out HB.out)
 (case side2 => exact HC0_0.out)
 (case side3 => exact zC HR0_1.out HB.out)
 (case side4 => exact HC0_1.out)
 (case side5 => repeat (first | exact (Kd.R_reads' HO263.out).2.2 | (with_reducible refine Kd.C_alloc ?_ _) | (with_reducible refine Kd.C_drewN ?_ _) | (with_reducible refine Kd.C_drew ?_)))
 (case side6 => exact (Kd.R_reads' HO263.out).2.1)
 rintro e w8 ⟨rfl, hb⟩; refine ⟨_, rfl, ?_⟩; have n0_ := Aside0.mk (Kd.R_below (zR HO263.out) hb); have n1_ := zBB BK260 hb; have n2_ := Aside0.mk (below_step (zH1 HB.out GE260.out) hb); clear HO263; clear BK260; clear HB; have HO263 := n0_; have BK260 := n1_; have HB := n2_; clear n0_ n1_ n2_; (try clear hb); (try clear hb2); (try clear hk); (try clear hi); refine hK.out _ _ ⟨(blk_cell BK260.out 0).trans rfl, (blk_cell BK260.out 1).trans rfl, (blk_cell BK260.out 2).trans rfl⟩ (fun hHeld => ?_); clear hK K; refine norm_ (a' := ?_) ?_ ?_; rotate_left
 ·
  show Act.put _ (some 9) _ = _
  simp only [Act.put, zq1, zq2, zq3, i64_w, i32_w]; rfl
 refine pure_ (i := 4) (N := some 5) (v := ?_) (a' := ?_) #[true, true, true, true, true, false, false, false, false] rfl rfl (any_of HT_.out (by kernel_rfl)) (fun _ _ _ h => h) (Or.inl ⟨by rfl, ?_⟩) ?_ ?_; rotate_left
 · intro w'; go_simp; with_reducible rfl
 rotate_left
 · simp only [Act.put, zq1, zq2, zq3, i64_w, i32_w]; rfl
 refine pure_ (i := 5) (N := some 10) (v := ?_) (a' := ?_) #[true, true, true, true, true, true, false, false, false] rfl rfl (any_of HT_.out (by kernel_rfl)) (fun _ _ _ h => h) (Or.inl ⟨by rfl, ?_⟩) ?_ ?_; rotate_left
 · intro w'; go_simp; with_reducible rfl
 rotate_left
 · simp only [Act.put, zq1, zq2, zq3, i64_w, i32_w]; rfl
 refine pure_ (i := 6) (N := some 11) (v := ?_) (a' := ?_) #[true, true, true, true, true, true, true, false, false] rfl rfl (any_of HT_.out (by kernel_rfl)) (fun _ _ _ h => h) (Or.inl ⟨by rfl, ?_⟩) ?_ ?_; rotate_left
 · intro w'; go_simp; with_reducible rfl
 rotate_left
 · simp only [Act.put, zq1, zq2, zq3, i64_w, i32_w]; rfl
 refine pure_ (i := 7) (N := some 3) (v := ?_) (a' := ?_) #[true, true, true, true, true, true, true, true, false] rfl rfl (any_of HT_.out (by kernel_rfl)) (fun _ _ _ h => h) (Or.inl ⟨by rfl, ?_⟩) ?_ ?_; rotate_left
 · intro w'; go_simp; with_reducible rfl
 rotate_left
 · simp only [Act.put, zq1, zq2, zq3, i64_w, i32_w]; rfl
 refine pure_ (i := 8) (N := some 4) (v := ?_) (a' := ?_) #[true, true, true, true, true, true, true, true, true] rfl rfl (any_of HT_.out (by kernel_rfl)) (fun _ _ _ h => h) (Or.inl ⟨by rfl, ?_⟩) ?_ ?_; rotate_left
 · intro w'; go_simp; with_reducible rfl
 rotate_left
 · simp only [Act.put, zq1, zq2, zq3, i64_w, i32_w]; rfl
 refine done_ (done_of HT_.out (by kernel_rfl)) ?_
 try go_wp2
 go_ret
 exact ⟨zE, zH1 HB.out GE260.out⟩

end Go.Proofs.YtlalofmilhakjaaDoor.ELotsSay
