/- The functions that the law comes to, as plain functions, and for each a proof that the Go code comes to just these answers. Written by a program of this claim. Conditions: each theorem bears its own. -/
import Derived.Test.YteooecifecaikaaDoorECertSaysx0
import Derived.Test.YteooecifecaikaaDoorECertSaysx1
import Derived.Test.YteooecifecaikaaDoorECertSaysx2
namespace Go.Proofs.YteooecifecaikaaDoor.ECertSays
open Go.RowKit Go.Proofs.YteooecifecaikaaDoorW.PrintWords Go.Proofs.YteooecifecaikaaDoorW.PrintLast Go.Proofs.YteooecifecaikaaDoorW.PrintMore Go.Proofs.YteooecifecaikaaDoorW.PrintOpen
attribute [local go_sem] max2_int min2_int max_two min_two max_three min_three max_four min_four   -- for this text's walks alone
set_option linter.unusedVariables false
set_option linter.unusedSimpArgs false

/-! ### pledgeref_SameFault: function 28 -/
def pledgeref_SameFault.f (a0_0 : Int) (a0_1 : Bool) (a0_2 : Int) (a1_0 : Int) (a1_1 : Bool) (a1_2 : Int) : Option (Bool) := if a0_0 = a1_0 then (if (a0_1 == a1_1) = true then (some (a0_2 == a1_2)) else (some false)) else (some false)
set_option maxHeartbeats 8000000 in
set_option maxRecDepth 100000 in
theorem pledgeref_SameFault.calls [Inhabited (Int → Addr)] (a0_0 : Int) (a0_1 : Bool) (a0_2 : Int) (a1_0 : Int) (a1_1 : Bool) (a1_2 : Int) (r : Bool) (w : World) (h : pledgeref_SameFault.f a0_0 a0_1 a0_2 a1_0 a1_1 a1_2 = some r) :
  Calls Tryd.prog 28 #[.agg #[.int .i64 a0_0, .bool a0_1, .int .i64 a0_2], .agg #[.int .i64 a1_0, .bool a1_1, .int .i64 a1_2]] w fun e w' => e = .returned (.bool r) ∧ Below w.heap.size w w' := by
 have hu52 := Tryd.underlying52; have HB := Aside0.mk (Below.refl w.heap.size w); have H : (if a0_0 = a1_0 then (if (a0_1 == a1_1) = true then (some (a0_2 == a1_2)) else (some false)) else (some false)) = some r := h; clear h; by_cases c3 : a0_0 = a1_0
 ·
  rw [if_pos c3] at H; have c3b0 : (a0_0 == a1_0) = true := beq_iff_eq.mpr c3; have c3b1 : (a0_0 != a1_0) = false := bne_eq_false_iff_eq.mpr c3; clear c3; by_cases c4 : (a0_1 == a1_1) = true
  ·
   rw [if_pos c4] at H; have c4b0 : (a0_1 == a1_1) = true := c4; (try (have c4b1 : decide (a0_1 = a1_1) = true := by simpa using c4)); (try (have c4b2 : (a0_1 == a1_1) = true := by simpa using c4)); clear c4; obtain rfl := Option.some.inj H
   go_enter Tryd.func28, Tryd.ntmps28
   go_wp2_with (first | ((with_reducible refine gate_dst (N := 2) rfl ?_); refine box_event ?hg (N := 2) ?hd (cs := #[.int .i64 a0_0, .bool a0_1, .int .i64 a0_2]) (t := 52) ?hr ?_; (case hd => rfl); (case hg => rfl); (case hr => first | (go_simp; done) | (go_simp; rfl)); intro gb179 hg w5 hbox hb; have n0_ := Aside0.mk (below_step (zH HB.out) hb); have n1_ := Aside0.mk (hbox); have n2_ := Aside0.mk (zg hg (below_size (zH HB.out)) : w.heap.size ≤ gb179); have n3_ := Aside0.mk (zg hg (below_size (zH HB.out)) : w.heap.size ≤ gb179); clear HB; have HB := n0_; have BK179 := n1_; have GW179 := n2_; have GE179 := n3_; clear n0_ n1_ n2_ n3_; clear hb hbox hg) | ((with_reducible refine gate_dst (N := 3) rfl ?_); refine box_event ?hg (N := 3) ?hd (cs := #[.int .i64 a1_0, .bool a1_1, .int .i64 a1_2]) (t := 52) ?hr ?_; (case hd => rfl); (case hg => rfl); (case hr => first | (go_simp; done) | (go_simp; rfl)); intro gb180 hg w6 hbox hb; have n0_ := zBB BK179 hb; have n1_ := Aside0.mk (below_step (zH1 HB.out GE179.out) hb); have n2_ := Aside0.mk (hbox); have n3_ := Aside0.mk (zg hg (below_size (zH1 HB.out GE179.out)) : w.heap.size ≤ gb180); have n4_ := Aside0.mk (zg hg (below_size (zH1 HB.out GE179.out)) : w.heap.size ≤ gb180); have n5_ := Aside0.mk (zN hg BK179 : gb179 ≠ gb180); have n6_ := Aside0.mk (zO hg BK179 : gb180 ≠ gb179); clear BK179; clear HB; have BK179 := n0_; have HB := n1_; have BK180 := n2_; have GW180 := n3_; have GE180 := n4_; have NB179_180 := n5_; have NB180_179 := n6_; clear n0_ n1_ n2_ n3_ n4_ n5_ n6_; clear hb hbox hg; have hnb7 := NB179_180.out; have hnc7 := NB180_179.out; have hcz8_0 : w6.cell? ⟨gb179, 0, none⟩ = some (.int .i64 a0_0) := (blk_cell BK179.out 0).trans rfl; have hcz8_1 : w6.cell? ⟨gb179, 1, none⟩ = some (.bool a0_1) := (blk_cell BK179.out 1).trans rfl; have hcz8_2 : w6.cell? ⟨gb179, 2, none⟩ = some (.int .i64 a0_2) := (blk_cell BK179.out 2).trans rfl; have hfz8_0 := blk_frozen BK179.out 0; have hfz8_1 := blk_frozen BK179.out 1; have hfz8_2 := blk_frozen BK179.out 2; have hcz9_0 : w6.cell? ⟨gb180, 0, none⟩ = some (.int .i64 a1_0) := (blk_cell BK180.out 0).trans rfl; have hcz9_1 : w6.cell? ⟨gb180, 1, none⟩ = some (.bool a1_1) := (blk_cell BK180.out 1).trans rfl; have hcz9_2 : w6.cell? ⟨gb180, 2, none⟩ = some (.int .i64 a1_2) := (blk_cell BK180.out 2).trans rfl; have hfz9_0 := blk_frozen BK180.out 0; have hfz9_1 := blk_frozen BK180.out 1; have hfz9_2 := blk_frozen BK180.out 2))
   go_ret
   exact ⟨zE, zH2 HB.out GE179.out GE180.out⟩
  ·
   rw [if_neg c4] at H; have c4b0 : (a0_1 == a1_1) = false := by simpa using c4
   (try (have c4b1 : decide (a0_1 = a1_1) = false := by simpa using c4)); (try (have c4b2 : (a0_1 == a1_1) = false := by simpa using c4)); (try (have c4b3 : ¬ (a0_1 = a1_1) := by simpa using c4)); clear c4; obtain rfl := Option.some.inj H
   go_enter Tryd.func28, Tryd.ntmps28
   go_wp2_with (first | ((with_reducible refine gate_dst (N := 2) rfl ?_); refine box_event ?hg (N := 2) ?hd (cs := #[.int .i64 a0_0, .bool a0_1, .int .i64 a0_2]) (t := 52) ?hr ?_; (case hd => rfl); (case hg => rfl); (case hr => first | (go_simp; done) | (go_simp; rfl)); intro gb179 hg w10 hbox hb; have n0_ := Aside0.mk (below_step (zH HB.out) hb); have n1_ := Aside0.mk (hbox); have n2_ := Aside0.mk (zg hg (below_size (zH HB.out)) : w.heap.size ≤ gb179); have n3_ := Aside0.mk (zg hg (below_size (zH HB.out)) : w.heap.size ≤ gb179); clear HB; have HB := n0_; have BK179 := n1_; have GW179 := n2_; have GE179 := n3_; clear n0_ n1_ n2_ n3_; clear hb hbox hg) | ((with_reducible refine gate_dst (N := 3) rfl ?_); refine box_event ?hg (N := 3) ?hd (cs := #[.int .i64 a1_0, .bool a1_1, .int .i64 a1_2]) (t := 52) ?hr ?_; (case hd => rfl); (case hg => rfl); (case hr => first | (go_simp; done) | (go_simp; rfl)); intro gb180 hg w11 hbox hb; have n0_ := zBB BK179 hb; have n1_ := Aside0.mk (below_step (zH1 HB.out GE179.out) hb); have n2_ := Aside0.mk (hbox); have n3_ := Aside0.mk (zg hg (below_size (zH1 HB.out GE179.out)) : w.heap.size ≤ gb180); have n4_ := Aside0.mk (zg hg (below_size (zH1 HB.out GE179.out)) : w.heap.size ≤ gb180); have n5_ := Aside0.mk (zN hg BK179 : gb179 ≠ gb180); have n6_ := Aside0.mk (zO hg BK179 : gb180 ≠ gb179); clear BK179; clear HB; have BK179 := n0_; have HB := n1_; have BK180 := n2_; have GW180 := n3_; have GE180 := n4_; have NB179_180 := n5_; have NB180_179 := n6_; clear n0_ n1_ n2_ n3_ n4_ n5_ n6_; clear hb hbox hg; have hnb12 := NB179_180.out; have hnc12 := NB180_179.out; have hcz13_0 : w11.cell? ⟨gb179, 0, none⟩ = some (.int .i64 a0_0) := (blk_cell BK179.out 0).trans rfl; have hcz13_1 : w11.cell? ⟨gb179, 1, none⟩ = some (.bool a0_1) := (blk_cell BK179.out 1).trans rfl; have hcz13_2 : w11.cell? ⟨gb179, 2, none⟩ = some (.int .i64 a0_2) := (blk_cell BK179.out 2).trans rfl; have hfz13_0 := blk_frozen BK179.out 0; have hfz13_1 := blk_frozen BK179.out 1; have hfz13_2 := blk_frozen BK179.out 2; have hcz14_0 : w11.cell? ⟨gb180, 0, none⟩ = some (.int .i64 a1_0) := (blk_cell BK180.out 0).trans rfl; have hcz14_1 : w11.cell? ⟨gb180, 1, none⟩ = some (.bool a1_1) := (blk_cell BK180.out 1).trans rfl; have hcz14_2 : w11.cell? ⟨gb180, 2, none⟩ = some (.int .i64 a1_2) := (blk_cell BK180.out 2).trans rfl; have hfz14_0 := blk_frozen BK180.out 0; have hfz14_1 := blk_frozen BK180.out 1; have hfz14_2 := blk_frozen BK180.out 2))
   go_ret
   exact ⟨zE, zH2 HB.out GE179.out GE180.out⟩
 ·
  rw [if_neg c3] at H; have c3b0 : (a0_0 == a1_0) = false := beq_eq_false_iff_ne.mpr c3; have c3b1 : (a0_0 != a1_0) = true := bne_iff_ne.mpr c3; obtain rfl := Option.some.inj H
  go_enter Tryd.func28, Tryd.ntmps28
  go_wp2_with (first | ((with_reducible refine gate_dst (N := 2) rfl ?_); refine box_event ?hg (N := 2) ?hd (cs := #[.int .i64 a0_0, .bool a0_1, .int .i64 a0_2]) (t := 52) ?hr ?_; (case hd => rfl); (case hg => rfl); (case hr => first | (go_simp; done) | (go_simp; rfl)); intro gb179 hg w15 hbox hb; have n0_ := Aside0.mk (below_step (zH HB.out) hb); have n1_ := Aside0.mk (hbox); have n2_ := Aside0.mk (zg hg (below_size (zH HB.out)) : w.heap.size ≤ gb179); have n3_ := Aside0.mk (zg hg (below_size (zH HB.out)) : w.heap.size ≤ gb179); clear HB; have HB := n0_; have BK179 := n1_; have GW179 := n2_; have GE179 := n3_; clear n0_ n1_ n2_ n3_; clear hb hbox hg) | ((with_reducible refine gate_dst (N := 3) rfl ?_); refine box_event ?hg (N := 3) ?hd (cs := #[.int .i64 a1_0, .bool a1_1, .int .i64 a1_2]) (t := 52) ?hr ?_; (case hd => rfl); (case hg => rfl); (case hr => first | (go_simp; done) | (go_simp; rfl)); intro gb180 hg w16 hbox hb; have n0_ := zBB BK179 hb; have n1_ := Aside0.mk (below_step (zH1 HB.out GE179.out) hb); have n2_ := Aside0.mk (hbox); have n3_ := Aside0.mk (zg hg (below_size (zH1 HB.out GE179.out)) : w.heap.size ≤ gb180); have n4_ := Aside0.mk (zg hg (below_size (zH1 HB.out GE179.out)) : w.heap.size ≤ gb180); have n5_ := Aside0.mk (zN hg BK179 : gb179 ≠ gb180); have n6_ := Aside0.mk (zO hg BK179 : gb180 ≠ gb179); clear BK179; clear HB; have BK179 := n0_; have HB := n1_; have BK180 := n2_; have GW180 := n3_; have GE180 := n4_; have NB179_180 := n5_; have NB180_179 := n6_; clear n0_ n1_ n2_ n3_ n4_ n5_ n6_; clear hb hbox hg; have hnb17 := NB179_180.out; have hnc17 := NB180_179.out; have hcz18_0 : w16.cell? ⟨gb179, 0, none⟩ = some (.int .i64 a0_0) := (blk_cell BK179.out 0).trans rfl; have hcz18_1 : w16.cell? ⟨gb179, 1, none⟩ = some (.bool a0_1) := (blk_cell BK179.out 1).trans rfl; have hcz18_2 : w16.cell? ⟨gb179, 2, none⟩ = some (.int .i64 a0_2) := (blk_cell BK179.out 2).trans rfl; have hfz18_0 := blk_frozen BK179.out 0; have hfz18_1 := blk_frozen BK179.out 1; have hfz18_2 := blk_frozen BK179.out 2; have hcz19_0 : w16.cell? ⟨gb180, 0, none⟩ = some (.int .i64 a1_0) := (blk_cell BK180.out 0).trans rfl; have hcz19_1 : w16.cell? ⟨gb180, 1, none⟩ = some (.bool a1_1) := (blk_cell BK180.out 1).trans rfl; have hcz19_2 : w16.cell? ⟨gb180, 2, none⟩ = some (.int .i64 a1_2) := (blk_cell BK180.out 2).trans rfl; have hfz19_0 := blk_frozen BK180.out 0; have hfz19_1 := blk_frozen BK180.out 1; have hfz19_2 := blk_frozen BK180.out 2))
  go_ret
  exact ⟨zE, zH2 HB.out GE179.out GE180.out⟩

/-! ### pledgeref_Bare: function 19 -/
def pledgeref_Bare.f (a0 : Int) : Option (Int × Bool × Int) := some (a0, false, 0)
set_option maxHeartbeats 8000000 in
set_option maxRecDepth 100000 in
theorem pledgeref_Bare.calls [Inhabited (Int → Addr)] (a0 : Int) (r1 : Int) (r2 : Bool) (r3 : Int) (w : World) (h : pledgeref_Bare.f a0 = some (r1, r2, r3)) :
    Calls Tryd.prog 19 #[.int .i64 a0] w fun e w' => e = .returned (.agg #[.int .i64 r1, .bool r2, .int .i64 r3]) ∧ Below w.heap.size w w' := by
  have hu52 := Tryd.underlying52; have HB := Aside0.mk (Below.refl w.heap.size w); have H : (some (a0, false, 0)) = some (r1, r2, r3) := h; clear h; simp only [Option.some.injEq, Prod.mk.injEq] at H; obtain ⟨rfl, rfl, rfl⟩ := H
  go_enter Tryd.func19, Tryd.ntmps19
  go_wp2_with (first | ((with_reducible refine gate_dst (N := 2) rfl ?_); refine box_event ?hg (N := 2) ?hd (cs := #[.int .i64 0, .bool false, .int .i64 0]) (t := 52) ?hr ?_; (case hd => rfl); (case hg => rfl); (case hr => first | (go_simp; done) | (go_simp; rfl)); intro gb181 hg w2 hbox hb; have n0_ := Aside0.mk (below_step (zH HB.out) hb); have n1_ := Aside0.mk (hbox); have n2_ := Aside0.mk (zg hg (below_size (zH HB.out)) : w.heap.size ≤ gb181); have n3_ := Aside0.mk (zg hg (below_size (zH HB.out)) : w.heap.size ≤ gb181); clear HB; have HB := n0_; have BK181 := n1_; have GW181 := n2_; have GE181 := n3_; clear n0_ n1_ n2_ n3_; clear hb hbox hg; have hcz3_0 : w2.cell? ⟨gb181, 0, none⟩ = some (.int .i64 0) := (blk_cell BK181.out 0).trans rfl; have hcz3_1 : w2.cell? ⟨gb181, 1, none⟩ = some (.bool false) := (blk_cell BK181.out 1).trans rfl; have hcz3_2 : w2.cell? ⟨gb181, 2, none⟩ = some (.int .i64 0) := (blk_cell BK181.out 2).trans rfl; have hfz3_0 := blk_frozen BK181.out 0; have hfz3_1 := blk_frozen BK181.out 1; have hfz3_2 := blk_frozen BK181.out 2))
  refine bodyPost_ret (results_cell_row rfl _ _ gb181 52 #[.int .i64 a0, .bool false, .int .i64 0] (0, 0) _ rfl (by (with_reducible repeat (first | refine blk_drewN ?_ _ | refine blk_drew ?_ | refine blk_alloc ?_ _)); refine blk_put (cs := #[.int .i64 a0, .bool false, .int .i64 0]) ?_ 2 _ rfl; (with_reducible repeat (first | refine blk_drewN ?_ _ | refine blk_drew ?_ | refine blk_alloc ?_ _)); refine blk_put (cs := #[.int .i64 a0, .bool false, .int .i64 0]) ?_ 1 _ rfl; (with_reducible repeat (first | refine blk_drewN ?_ _ | refine blk_drew ?_ | refine blk_alloc ?_ _)); refine blk_put (cs := #[.int .i64 0, .bool false, .int .i64 0]) ?_ 0 _ rfl; (with_reducible repeat (first | refine blk_drewN ?_ _ | refine blk_drew ?_ | refine blk_alloc ?_ _)); exact BK181.out) Tryd.underlying52 rfl (by kernel_rfl)) rfl ?_; exact ⟨zE, zH1 HB.out GE181.out⟩

/-! ### pledgeref_None: function 46 -/
def pledgeref_None.f  : Option (Int × Bool × Int) := some (0, false, 0)
set_option maxHeartbeats 8000000 in
set_option maxRecDepth 100000 in
theorem pledgeref_None.calls [Inhabited (Int → Addr)]  (r1 : Int) (r2 : Bool) (r3 : Int) (w : World) (h : pledgeref_None.f  = some (r1, r2, r3)) :
  Calls Tryd.prog 46 #[] w fun e w' => e = .returned (.agg #[.int .i64 r1, .bool r2, .int .i64 r3]) ∧ Below w.heap.size w w' := by
 have hu52 := Tryd.underlying52; have HB := Aside0.mk (Below.refl w.heap.size w); have H : (some (0, false, 0)) = some (r1, r2, r3) := h; clear h; simp only [Option.some.injEq, Prod.mk.injEq] at H; obtain ⟨rfl, rfl, rfl⟩ := H
 go_enter Tryd.func46, Tryd.ntmps46
 go_wp2_with (first | ((with_reducible refine gate_dst (N := 0) rfl ?_); refine box_event ?hg (N := 0) ?hd (cs := #[.int .i64 0, .bool false, .int .i64 0]) (t := 52) ?hr ?_; (case hd => rfl); (case hg => rfl); (case hr => first | (go_simp; done) | (go_simp; rfl)); intro gb182 hg w1 hbox hb; have n0_ := Aside0.mk (below_step (zH HB.out) hb); have n1_ := Aside0.mk (hbox); have n2_ := Aside0.mk (zg hg (below_size (zH HB.out)) : w.heap.size ≤ gb182); have n3_ := Aside0.mk (zg hg (below_size (zH HB.out)) : w.heap.size ≤ gb182); clear HB; have HB := n0_; have BK182 := n1_; have GW182 := n2_; have GE182 := n3_; clear n0_ n1_ n2_ n3_; clear hb hbox hg; have hcz2_0 : w1.cell? ⟨gb182, 0, none⟩ = some (.int .i64 0) := (blk_cell BK182.out 0).trans rfl; have hcz2_1 : w1.cell? ⟨gb182, 1, none⟩ = some (.bool false) := (blk_cell BK182.out 1).trans rfl; have hcz2_2 : w1.cell? ⟨gb182, 2, none⟩ = some (.int .i64 0) := (blk_cell BK182.out 2).trans rfl; have hfz2_0 := blk_frozen BK182.out 0; have hfz2_1 := blk_frozen BK182.out 1; have hfz2_2 := blk_frozen BK182.out 2))
 refine bodyPost_ret (results_cell_row rfl _ _ gb182 52 #[.int .i64 0, .bool false, .int .i64 0] (0, 0) _ rfl (by (with_reducible repeat (first | refine blk_drewN ?_ _ | refine blk_drew ?_ | refine blk_alloc ?_ _)); refine blk_put (cs := #[.int .i64 0, .bool false, .int .i64 0]) ?_ 2 _ rfl; (with_reducible repeat (first | refine blk_drewN ?_ _ | refine blk_drew ?_ | refine blk_alloc ?_ _)); refine blk_put (cs := #[.int .i64 0, .bool false, .int .i64 0]) ?_ 1 _ rfl; (with_reducible repeat (first | refine blk_drewN ?_ _ | refine blk_drew ?_ | refine blk_alloc ?_ _)); refine blk_put (cs := #[.int .i64 0, .bool false, .int .i64 0]) ?_ 0 _ rfl; (with_reducible repeat (first | refine blk_drewN ?_ _ | refine blk_drew ?_ | refine blk_alloc ?_ _)); exact BK182.out) Tryd.underlying52 rfl (by kernel_rfl)) rfl ?_; exact ⟨zE, zH1 HB.out GE182.out⟩

def errKd [Inhabited (Int → Addr)] : Kd (Option Int) := Kd.scalar errW (fun x => by cases x <;> rfl)
def sentL : List (Option Int) := [some 101, some 102, some 103, some 104, some 105, some 106, some 107, some 108, some 109, some 110, some 111, some 112, some 113, some 114, some 115, some 116, some 117, some 118, some 119, some 120, some 121]
set_option maxHeartbeats 4000000 in
set_option maxRecDepth 100000 in
theorem sentinels_calls [Inhabited (Int → Addr)] (w : World) (hG : GlobOK w) :
  Calls Tryd.prog 57 #[] w fun e w' => ∃ v, e = .returned v ∧ Kd.R errKd 36 w' w.heap.size (fun _ => True) v sentL ∧ Below w.heap.size w w' := by
 have hx0 := GlobOK.at hG 101 6 (by simp [globTab]); have hx1 := GlobOK.at hG 102 0 (by simp [globTab]); have hx2 := GlobOK.at hG 103 3 (by simp [globTab]); have hx3 := GlobOK.at hG 104 7 (by simp [globTab]); have hx4 := GlobOK.at hG 105 2 (by simp [globTab]); have hx5 := GlobOK.at hG 106 8 (by simp [globTab]); have hx6 := GlobOK.at hG 107 9 (by simp [globTab]); have hx7 := GlobOK.at hG 108 10 (by simp [globTab]); have hx8 := GlobOK.at hG 109 11 (by simp [globTab]); have hx9 := GlobOK.at hG 110 12 (by simp [globTab]); have hx10 := GlobOK.at hG 111 13 (by simp [globTab]); have hx11 := GlobOK.at hG 112 14 (by simp [globTab]); have hx12 := GlobOK.at hG 113 15 (by simp [globTab]); have hx13 := GlobOK.at hG 114 16 (by simp [globTab]); have hx14 := GlobOK.at hG 115 1 (by simp [globTab]); have hx15 := GlobOK.at hG 116 17 (by simp [globTab]); have hx16 := GlobOK.at hG 117 18 (by simp [globTab]); have hx17 := GlobOK.at hG 118 19 (by simp [globTab]); have hx18 := GlobOK.at hG 119 20 (by simp [globTab]); have hx19 := GlobOK.at hG 120 21 (by simp [globTab]); have hx20 := GlobOK.at hG 121 22 (by simp [globTab]); clear hG
 go_enter Tryd.func57, Tryd.ntmps57
 go_wp2_with ((with_reducible refine gate_dst (N := 22) rfl ?_); refine Kd.R_lit errKd _ 36 ?hg (N := 22) ?hd (xs := sentL) (inner := [.iface 107 (.pointer (some (adr 101))), .iface 107 (.pointer (some (adr 102))), .iface 107 (.pointer (some (adr 103))), .iface 107 (.pointer (some (adr 104))), .iface 107 (.pointer (some (adr 105))), .iface 107 (.pointer (some (adr 106))), .iface 107 (.pointer (some (adr 107))), .iface 107 (.pointer (some (adr 108))), .iface 107 (.pointer (some (adr 109))), .iface 107 (.pointer (some (adr 110))), .iface 107 (.pointer (some (adr 111))), .iface 107 (.pointer (some (adr 112))), .iface 107 (.pointer (some (adr 113))), .iface 107 (.pointer (some (adr 114))), .iface 107 (.pointer (some (adr 115))), .iface 107 (.pointer (some (adr 116))), .iface 107 (.pointer (some (adr 117))), .iface 107 (.pointer (some (adr 118))), .iface 107 (.pointer (some (adr 119))), .iface 107 (.pointer (some (adr 120))), .iface 107 (.pointer (some (adr 121)))]) (ok := fun _ => True) (okp := fun _ => True) ?hr ?hp (fun _ hk => hk) trivial (Below.refl _ _) (Nat.le_refl _) (by decide) ?_; (case hd => rfl); (case hg => rfl); (case hr => first | (go_simp; done) | (go_simp; rfl)); (case hp => exact (Reps.one (show Kd.M errKd _ _ _ (some 101) [.iface 107 (.pointer (some (adr 101)))] from rfl) (Reps.one (show Kd.M errKd _ _ _ (some 102) [.iface 107 (.pointer (some (adr 102)))] from rfl) (Reps.one (show Kd.M errKd _ _ _ (some 103) [.iface 107 (.pointer (some (adr 103)))] from rfl) (Reps.one (show Kd.M errKd _ _ _ (some 104) [.iface 107 (.pointer (some (adr 104)))] from rfl) (Reps.one (show Kd.M errKd _ _ _ (some 105) [.iface 107 (.pointer (some (adr 105)))] from rfl) (Reps.one (show Kd.M errKd _ _ _ (some 106) [.iface 107 (.pointer (some (adr 106)))] from rfl) (Reps.one (show Kd.M errKd _ _ _ (some 107) [.iface 107 (.pointer (some (adr 107)))] from rfl) (Reps.one (show Kd.M errKd _ _ _ (some 108) [.iface 107 (.pointer (some (adr 108)))] from rfl) (Reps.one (show Kd.M errKd _ _ _ (some 109) [.iface 107 (.pointer (some (adr 109)))] from rfl) (Reps.one (show Kd.M errKd _ _ _ (some 110) [.iface 107 (.pointer (some (adr 110)))] from rfl) (Reps.one (show Kd.M errKd _ _ _ (some 111) [.iface 107 (.pointer (some (adr 111)))] from rfl) (Reps.one (show Kd.M errKd _ _ _ (some 112) [.iface 107 (.pointer (some (adr 112)))] from rfl) (Reps.one (show Kd.M errKd _ _ _ (some 113) [.iface 107 (.pointer (some (adr 113)))] from rfl) (Reps.one (show Kd.M errKd _ _ _ (some 114) [.iface 107 (.pointer (some (adr 114)))] from rfl) (Reps.one (show Kd.M errKd _ _ _ (some 115) [.iface 107 (.pointer (some (adr 115)))] from rfl) (Reps.one (show Kd.M errKd _ _ _ (some 116) [.iface 107 (.pointer (some (adr 116)))] from rfl) (Reps.one (show Kd.M errKd _ _ _ (some 117) [.iface 107 (.pointer (some (adr 117)))] from rfl) (Reps.one (show Kd.M errKd _ _ _ (some 118) [.iface 107 (.pointer (some (adr 118)))] from rfl) (Reps.one (show Kd.M errKd _ _ _ (some 119) [.iface 107 (.pointer (some (adr 119)))] from rfl) (Reps.one (show Kd.M errKd _ _ _ (some 120) [.iface 107 (.pointer (some (adr 120)))] from rfl) (Reps.one (show Kd.M errKd _ _ _ (some 121) [.iface 107 (.pointer (some (adr 121)))] from rfl) (Reps.none _ _))))))))))))))))))))))); intro v w2 ho3 hb hg_ hnew_; clear hg_ hnew_)
 go_ret
 exact ⟨_, rfl, ho3, hb⟩
theorem comp107 : (Tryd.prog.info? 107).map (·.comparable) = some true := by kernel_rfl
theorem size126 : (Tryd.prog.info? 126).map (·.size) = some 1 := by kernel_rfl
theorem eql_errs [Inhabited (Int → Addr)] {w : World} (hG : GlobOK w) {c d : Int} {g g' : Nat} (hc : (c, g) ∈ globTab) (hd : (d, g') ∈ globTab) :
  (binOp .eql 36 (.iface 107 (.pointer (some (adr c)))) (.iface 107 (.pointer (some (adr d))))).run Tryd.prog w = Result.ok (.bool (c == d)) w := by
 obtain ⟨i, hi, hcmp⟩ := Option.map_eq_some_iff.1 comp107; obtain ⟨j, hj, hsz⟩ := Option.map_eq_some_iff.1 size126; by_cases e : c = d
 ·
  subst e; have := run_eql_iface_ptr_same w (adr c) Tryd.underlying36 Tryd.underlying107 hi hcmp hj
  simpa using this
 ·
  obtain ⟨_, c1, t1, h1⟩ := hG.1 _ hc; obtain ⟨_, c2, t2, h2⟩ := hG.1 _ hd; have := run_eql_iface_ptr_other w Tryd.underlying36 Tryd.underlying107 hi hcmp hj (by rw [hsz]; decide) (hG.2 _ hc _ hd e) h1 h2; rw [this, show (c == d) = false from beq_eq_false_iff_ne.2 e]
set_option maxHeartbeats 4000000 in
theorem alike_calls [Inhabited (Int → Addr)] {c d : Int} {g g' : Nat} (w : World) (hG : GlobOK w) (hc : (c, g) ∈ globTab) (hd : (d, g') ∈ globTab) :
  Calls Tryd.prog 58 #[.iface 107 (.pointer (some (adr c))), .iface 107 (.pointer (some (adr d)))] w fun e w' => e = .returned (.bool (c == d)) ∧ w = w' := by
 have he := eql_errs hG hc hd; have hu36 := Tryd.underlying36; clear hG hc hd
 go_enter Tryd.func58, Tryd.ntmps58
 go_wp2
 go_ret
 exact ⟨rfl, rfl⟩
theorem globAll (k : Nat) (hk : k < 21) : ∃ g, (101 + (k : Int), g) ∈ globTab := by
 have h : ∀ j : Fin 21, (globTab.any fun p => p.1 == 101 + ((j : Nat) : Int)) = true := by decide
 obtain ⟨p, hp, he⟩ := List.any_eq_true.1 (h ⟨k, hk⟩); exact ⟨p.2, by rw [← (eq_of_beq he : p.1 = 101 + (k : Int))]; exact hp⟩
theorem sentL_at (k : Nat) (hk : k < 21) : sentL.getD k none = some (101 + (k : Int)) := by
 have h : ∀ j : Fin 21, sentL.getD (j : Nat) none = some (101 + ((j : Nat) : Int)) := by decide
 exact h ⟨k, hk⟩
theorem at_sent [Inhabited (Int → Addr)] {w : World} {A : Option Addr} {n : Nat} (h : Kd.C errKd w A n sentL) (k : Nat) (hk : k < 21) (hn : n = 21) :
  ∃ ad, A = some ad ∧ w.cell? (ad.add k) = some (.iface 107 (.pointer (some (adr (101 + (k : Int)))))) := by
 obtain ⟨ad, c, e, _, hK, hc⟩ := Kd.C_get h none (k : Int) (by omega) (by omega); refine ⟨ad, e, ?_⟩; have hc' : ∀ j u, c[j]? = some u → w.cell? (ad.add (((k : Int)).toNat * 1 + j)) = some u := hc; have hK' : c = [errW (sentL.getD ((k : Int)).toNat none)] := hK; subst hK'; have := hc' 0 _ rfl; rw [Int.toNat_natCast, Nat.mul_one, Nat.add_zero, sentL_at k hk, errW_some] at this; exact this
set_option maxHeartbeats 4000000 in
set_option maxRecDepth 100000 in
theorem sentinel_calls [Inhabited (Int → Addr)] (m : Nat) (hm : m < 21) (w : World) (hG : GlobOK w) :
  Calls Tryd.prog 47 #[.iface 107 (.pointer (some (adr (101 + (m : Int)))))] w fun e w' => e = .returned (.int .i64 (101 + (m : Int))) ∧ Below w.heap.size w w' := by
 have HG := Aside0.mk hG; clear hG
 go_enter Tryd.func47, Tryd.ntmps47
 go_wp2_with (go_at_call 57; refine (sentinels_calls _ HG.out).mono ?_; rintro e w2 ⟨v, rfl, ho, hb⟩; obtain ⟨A, cc, ev⟩ := Kd.R_slice ho; replace ev : v = .slice A 21 cc := ev; subst ev; have HC := Aside0.mk (Kd.R_reads' ho).2.2; have HB := Aside0.mk hb; clear ho hb)
 have HG2 := Aside0.mk (GlobOK.below HG.out HB.out)
 go_loop [4] (fun i => ∃ k : Nat, k ≤ m ∧ i = .int .i64 k) (fun i => 21 - (intOf i).toNat)
 case atStart => exact ⟨0, Nat.zero_le _, rfl⟩
 case round =>
  obtain ⟨k, hk, rfl⟩ := hrel; obtain ⟨ad, e, hx⟩ := at_sent HC.out k (by omega) rfl; subst e; obtain ⟨g1, hg1⟩ := globAll m hm; obtain ⟨g2, hg2⟩ := globAll k (by omega); have H1 := Aside0.mk hg1; have H2 := Aside0.mk hg2; clear hg1 hg2; have hlt : (k < 21) = True := eq_true (by omega); have hb0 : decide (k < 21) = true := decide_eq_true (by omega); have h0 : (0 ≤ (k : Int)) = True := eq_true (by omega); have hb1 : decide ((k : Int) < 21) = true := decide_eq_true (by omega); have hl1 : ((k : Int) < 21) = True := eq_true (by omega); by_cases hkm : k = m
  ·
   subst hkm; have hbb : ((101 + (k : Int)) == (101 + (k : Int))) = true := by simp
   go_wp2_with (go_at_call 58; refine (alike_calls _ HG2.out H1.out H2.out).mono ?_; rintro e w3 ⟨rfl, rfl⟩)
   go_ret
   exact ⟨rfl, HB.out⟩
  ·
   have hbb : ((101 + (m : Int)) == (101 + (k : Int))) = false := by simp; omega
   go_wp2_with (go_at_call 58; refine (alike_calls _ HG2.out H1.out H2.out).mono ?_; rintro e w3 ⟨rfl, rfl⟩)
   go_round
   case rel => exact ⟨k + 1, by omega, by go_num⟩
   case measure => simp [intOf]; omega

/-! ### pledgesee_sentinel: function 47 -/
def pledgesee_sentinel.f (a0 : Option Int) : Option Int := if 101 ≤ a0.getD 0 ∧ a0.getD 0 ≤ 121 then a0 else none
theorem pledgesee_sentinel.calls [Inhabited (Int → Addr)] (a0 : Option Int) (r : Int) (w : World) (hG : GlobOK w) (h : pledgesee_sentinel.f a0 = some r) :
    Calls Tryd.prog 47 #[errW a0] w fun e w' => e = .returned (.int .i64 r) ∧ Below w.heap.size w w' := by
  rcases a0 with _ | c
  · simp [pledgesee_sentinel.f] at h
  · unfold pledgesee_sentinel.f at h
    by_cases hc : 101 ≤ (some c).getD 0 ∧ (some c).getD 0 ≤ 121
    · rw [if_pos hc] at h
      obtain rfl := Option.some.inj h; simp only [Option.getD_some] at hc; have := sentinel_calls (c - 101).toNat (by omega) w hG; rw [show (101 : Int) + ((c - 101).toNat : Int) = c by omega] at this; exact this
    · rw [if_neg hc] at h; cases h

/-! ### pledgeref_Placed: function 48 -/
def pledgeref_Placed.f (a0 : Int) (a1 : Int) : Option (Int × Bool × Int) := if a0 = 0 then ((pledgeref_None.f).bind fun bt184 => (some (bt184.1, bt184.2.1, bt184.2.2))) else (some (a0, true, a1))
set_option maxHeartbeats 8000000 in
set_option maxRecDepth 100000 in
theorem pledgeref_Placed.calls [Inhabited (Int → Addr)] (a0 : Int) (a1 : Int) (r1 : Int) (r2 : Bool) (r3 : Int) (w : World) (h : pledgeref_Placed.f a0 a1 = some (r1, r2, r3)) :
    Calls Tryd.prog 48 #[.int .i64 a0, .int .i64 a1] w fun e w' => e = .returned (.agg #[.int .i64 r1, .bool r2, .int .i64 r3]) ∧ Below w.heap.size w w' := by
  have hu52 := Tryd.underlying52; have HB := Aside0.mk (Below.refl w.heap.size w); have H : (if a0 = 0 then ((pledgeref_None.f).bind fun bt184 => (some (bt184.1, bt184.2.1, bt184.2.2))) else (some (a0, true, a1))) = some (r1, r2, r3) := h; clear h; by_cases c3 : a0 = 0
  · rw [if_pos c3] at H
    have c3b0 : (a0 == 0) = true := beq_iff_eq.mpr c3; have c3b1 : (a0 != 0) = false := bne_eq_false_iff_eq.mpr c3; clear c3; replace H := Option.bind_eq_some_iff.mp H; obtain ⟨⟨t184, t185, t186⟩, A40, H⟩ := H; replace H : (some (t184, t185, t186)) = some (r1, r2, r3) := H; have A4 := Aside0.mk A40; clear A40; simp only [Option.some.injEq, Prod.mk.injEq] at H; obtain ⟨rfl, rfl, rfl⟩ := H
    go_enter Tryd.func48, Tryd.ntmps48
    go_wp2_with (first | ((with_reducible refine gate_dst (N := 4) rfl ?_); refine box_event ?hg (N := 4) ?hd (cs := #[.int .i64 0, .bool false, .int .i64 0]) (t := 52) ?hr ?_; (case hd => rfl); (case hg => rfl); (case hr => first | (go_simp; done) | (go_simp; rfl)); intro gb183 hg w5 hbox hb; have n0_ := Aside0.mk (below_step (zH HB.out) hb); have n1_ := Aside0.mk (hbox); have n2_ := Aside0.mk (zg hg (below_size (zH HB.out)) : w.heap.size ≤ gb183); have n3_ := Aside0.mk (zg hg (below_size (zH HB.out)) : w.heap.size ≤ gb183); clear HB; have HB := n0_; have BK183 := n1_; have GW183 := n2_; have GE183 := n3_; clear n0_ n1_ n2_ n3_; clear hb hbox hg) | ((with_reducible refine gate_callee (f := 46) rfl ?_); refine goesL_ (some 7) rfl rfl Tryd.func46 (by kernel_rfl) rfl #[] rfl zM ?_; (with_reducible refine (pledgeref_None.calls  t184 t185 t186 _ A4.out).mono ?_); rintro e w6 ⟨rfl, hb⟩; refine ⟨_, rfl, ?_⟩; have n0_ := zBB BK183 hb; have n1_ := Aside0.mk (below_step (zH1 HB.out GE183.out) hb); clear BK183; clear HB; have BK183 := n0_; have HB := n1_; clear n0_ n1_; (try clear hb); (try clear hb2); (try clear hk); (try clear hi); have hcz7_0 : w6.cell? ⟨gb183, 0, none⟩ = some (.int .i64 0) := (blk_cell BK183.out 0).trans rfl; have hcz7_1 : w6.cell? ⟨gb183, 1, none⟩ = some (.bool false) := (blk_cell BK183.out 1).trans rfl; have hcz7_2 : w6.cell? ⟨gb183, 2, none⟩ = some (.int .i64 0) := (blk_cell BK183.out 2).trans rfl; have hfz7_0 := blk_frozen BK183.out 0; have hfz7_1 := blk_frozen BK183.out 1; have hfz7_2 := blk_frozen BK183.out 2))
    refine bodyPost_ret (results_cell_row rfl _ _ gb183 52 #[.int .i64 t184, .bool t185, .int .i64 t186] (0, 0) _ rfl (by (with_reducible repeat (first | refine blk_drewN ?_ _ | refine blk_drew ?_ | refine blk_alloc ?_ _)); refine blk_put (cs := #[.int .i64 t184, .bool t185, .int .i64 0]) ?_ 2 _ rfl; (with_reducible repeat (first | refine blk_drewN ?_ _ | refine blk_drew ?_ | refine blk_alloc ?_ _)); refine blk_put (cs := #[.int .i64 t184, .bool false, .int .i64 0]) ?_ 1 _ rfl; (with_reducible repeat (first | refine blk_drewN ?_ _ | refine blk_drew ?_ | refine blk_alloc ?_ _)); refine blk_put (cs := #[.int .i64 0, .bool false, .int .i64 0]) ?_ 0 _ rfl; (with_reducible repeat (first | refine blk_drewN ?_ _ | refine blk_drew ?_ | refine blk_alloc ?_ _)); exact BK183.out) Tryd.underlying52 rfl (by kernel_rfl)) rfl ?_; exact ⟨zE, zH1 HB.out GE183.out⟩
  · rw [if_neg c3] at H
    have c3b0 : (a0 == 0) = false := beq_eq_false_iff_ne.mpr c3; have c3b1 : (a0 != 0) = true := bne_iff_ne.mpr c3; simp only [Option.some.injEq, Prod.mk.injEq] at H; obtain ⟨rfl, rfl, rfl⟩ := H
    go_enter Tryd.func48, Tryd.ntmps48
    go_wp2_with (first | ((with_reducible refine gate_dst (N := 4) rfl ?_); refine box_event ?hg (N := 4) ?hd (cs := #[.int .i64 0, .bool false, .int .i64 0]) (t := 52) ?hr ?_; (case hd => rfl); (case hg => rfl); (case hr => first | (go_simp; done) | (go_simp; rfl)); intro gb183 hg w8 hbox hb; have n0_ := Aside0.mk (below_step (zH HB.out) hb); have n1_ := Aside0.mk (hbox); have n2_ := Aside0.mk (zg hg (below_size (zH HB.out)) : w.heap.size ≤ gb183); have n3_ := Aside0.mk (zg hg (below_size (zH HB.out)) : w.heap.size ≤ gb183); clear HB; have HB := n0_; have BK183 := n1_; have GW183 := n2_; have GE183 := n3_; clear n0_ n1_ n2_ n3_; clear hb hbox hg; have hcz9_0 : w8.cell? ⟨gb183, 0, none⟩ = some (.int .i64 0) := (blk_cell BK183.out 0).trans rfl; have hcz9_1 : w8.cell? ⟨gb183, 1, none⟩ = some (.bool false) := (blk_cell BK183.out 1).trans rfl; have hcz9_2 : w8.cell? ⟨gb183, 2, none⟩ = some (.int .i64 0) := (blk_cell BK183.out 2).trans rfl; have hfz9_0 := blk_frozen BK183.out 0; have hfz9_1 := blk_frozen BK183.out 1; have hfz9_2 := blk_frozen BK183.out 2))
    refine bodyPost_ret (results_cell_row rfl _ _ gb183 52 #[.int .i64 a0, .bool true, .int .i64 a1] (0, 0) _ rfl (by (with_reducible repeat (first | refine blk_drewN ?_ _ | refine blk_drew ?_ | refine blk_alloc ?_ _)); refine blk_put (cs := #[.int .i64 a0, .bool true, .int .i64 0]) ?_ 2 _ rfl; (with_reducible repeat (first | refine blk_drewN ?_ _ | refine blk_drew ?_ | refine blk_alloc ?_ _)); refine blk_put (cs := #[.int .i64 a0, .bool false, .int .i64 0]) ?_ 1 _ rfl; (with_reducible repeat (first | refine blk_drewN ?_ _ | refine blk_drew ?_ | refine blk_alloc ?_ _)); refine blk_put (cs := #[.int .i64 0, .bool false, .int .i64 0]) ?_ 0 _ rfl; (with_reducible repeat (first | refine blk_drewN ?_ _ | refine blk_drew ?_ | refine blk_alloc ?_ _)); exact BK183.out) Tryd.underlying52 rfl (by kernel_rfl)) rfl ?_; exact ⟨zE, zH1 HB.out GE183.out⟩

/-! ### pledgesee_Fault: function 29 -/
def pledgesee_Fault.f (a0 : Option Int) : Option (Int × Bool × Int) := if a0.isNone = true then ((pledgeref_None.f).bind fun bt189 => (some (bt189.1, bt189.2.1, bt189.2.2))) else ((pledgesee_sentinel.f (some (a0.getD 0))).bind fun t192 => ((pledgeref_Bare.f t192).bind fun bt193 => (some (bt193.1, bt193.2.1, bt193.2.2))))
set_option maxHeartbeats 8000000 in
set_option maxRecDepth 100000 in
theorem pledgesee_Fault.calls [Inhabited (Int → Addr)] (a0 : Option Int) (r1 : Int) (r2 : Bool) (r3 : Int) (w : World) (hG : GlobOK w) (h : pledgesee_Fault.f a0 = some (r1, r2, r3)) :
    Calls Tryd.prog 29 #[errW a0] w fun e w' => e = .returned (.agg #[.int .i64 r1, .bool r2, .int .i64 r3]) ∧ Below w.heap.size w w' := by
  have hu52 := Tryd.underlying52; have hu36 := Tryd.underlying36; have hu107 := Tryd.underlying107; have hta : ∀ (v : Value) (W : World), (Instr.typeAssert (.iface 107 v) 36 82 true).run Tryd.prog W = .ok (.tuple #[.pointer none, .bool false]) W := fun v W => by rfl
  have HG := Aside0.mk hG; clear hG; have HB := Aside0.mk (Below.refl w.heap.size w); have H : (if a0.isNone = true then ((pledgeref_None.f).bind fun bt189 => (some (bt189.1, bt189.2.1, bt189.2.2))) else ((pledgesee_sentinel.f (some (a0.getD 0))).bind fun t192 => ((pledgeref_Bare.f t192).bind fun bt193 => (some (bt193.1, bt193.2.1, bt193.2.2))))) = some (r1, r2, r3) := h; clear h
  rcases a0 with _ | q188
  · have H1 : ((pledgeref_None.f).bind fun bt189 => (some (bt189.1, bt189.2.1, bt189.2.2))) = some (r1, r2, r3) := by rw [if_pos (show (none : Option Int).isNone = true by rfl)] at H; exact H
    clear H; have H := H1; clear H1; simp only [errW_none, errW_some]; replace H := Option.bind_eq_some_iff.mp H; obtain ⟨⟨t189, t190, t191⟩, A20, H⟩ := H; replace H : (some (t189, t190, t191)) = some (r1, r2, r3) := H; have A2 := Aside0.mk A20; clear A20; simp only [Option.some.injEq, Prod.mk.injEq] at H; obtain ⟨rfl, rfl, rfl⟩ := H
    go_enter Tryd.func29, Tryd.ntmps29
    go_wp2_with (first | ((with_reducible refine gate_dst (N := 2) rfl ?_); refine box_event ?hg (N := 2) ?hd (cs := #[.int .i64 0, .bool false, .int .i64 0]) (t := 52) ?hr ?_; (case hd => rfl); (case hg => rfl); (case hr => first | (go_simp; done) | (go_simp; rfl)); intro gb187 hg w3 hbox hb; have n0_ := Aside0.mk (below_step (zH HB.out) hb); have n1_ := Aside0.mk (hbox); have n2_ := Aside0.mk (zg hg (below_size (zH HB.out)) : w.heap.size ≤ gb187); have n3_ := Aside0.mk (zg hg (below_size (zH HB.out)) : w.heap.size ≤ gb187); clear HB; have HB := n0_; have BK187 := n1_; have GW187 := n2_; have GE187 := n3_; clear n0_ n1_ n2_ n3_; clear hb hbox hg) | ((with_reducible refine gate_callee (f := 46) rfl ?_); refine goesL_ (some 7) rfl rfl Tryd.func46 (by kernel_rfl) rfl #[] rfl zM ?_; (with_reducible refine (pledgeref_None.calls  t189 t190 t191 _ A2.out).mono ?_); rintro e w4 ⟨rfl, hb⟩; refine ⟨_, rfl, ?_⟩; have n0_ := zBB BK187 hb; have n1_ := Aside0.mk (below_step (zH1 HB.out GE187.out) hb); clear BK187; clear HB; have BK187 := n0_; have HB := n1_; clear n0_ n1_; (try clear hb); (try clear hb2); (try clear hk); (try clear hi); have hcz5_0 : w4.cell? ⟨gb187, 0, none⟩ = some (.int .i64 0) := (blk_cell BK187.out 0).trans rfl; have hcz5_1 : w4.cell? ⟨gb187, 1, none⟩ = some (.bool false) := (blk_cell BK187.out 1).trans rfl; have hcz5_2 : w4.cell? ⟨gb187, 2, none⟩ = some (.int .i64 0) := (blk_cell BK187.out 2).trans rfl; have hfz5_0 := blk_frozen BK187.out 0; have hfz5_1 := blk_frozen BK187.out 1; have hfz5_2 := blk_frozen BK187.out 2))
    refine bodyPost_ret (results_cell_row rfl _ _ gb187 52 #[.int .i64 t189, .bool t190, .int .i64 t191] (0, 0) _ rfl (by (with_reducible repeat (first | refine blk_drewN ?_ _ | refine blk_drew ?_ | refine blk_alloc ?_ _)); refine blk_put (cs := #[.int .i64 t189, .bool t190, .int .i64 0]) ?_ 2 _ rfl; (with_reducible repeat (first | refine blk_drewN ?_ _ | refine blk_drew ?_ | refine blk_alloc ?_ _)); refine blk_put (cs := #[.int .i64 t189, .bool false, .int .i64 0]) ?_ 1 _ rfl; (with_reducible repeat (first | refine blk_drewN ?_ _ | refine blk_drew ?_ | refine blk_alloc ?_ _)); refine blk_put (cs := #[.int .i64 0, .bool false, .int .i64 0]) ?_ 0 _ rfl; (with_reducible repeat (first | refine blk_drewN ?_ _ | refine blk_drew ?_ | refine blk_alloc ?_ _)); exact BK187.out) Tryd.underlying52 rfl (by kernel_rfl)) rfl ?_; exact ⟨zE, zH1 HB.out GE187.out⟩
  · have H1 : ((pledgesee_sentinel.f (some q188)).bind fun t192 => ((pledgeref_Bare.f t192).bind fun bt193 => (some (bt193.1, bt193.2.1, bt193.2.2)))) = some (r1, r2, r3) := by rw [if_neg (show ¬ (some q188).isNone = true by simp)] at H; exact H
    clear H; have H := H1; clear H1; simp only [errW_none, errW_some]; replace H := Option.bind_eq_some_iff.mp H; obtain ⟨t192, A60, H⟩ := H; replace H : ((pledgeref_Bare.f t192).bind fun bt193 => (some (bt193.1, bt193.2.1, bt193.2.2))) = some (r1, r2, r3) := H; have A6 := Aside0.mk A60; clear A60; replace H := Option.bind_eq_some_iff.mp H; obtain ⟨⟨t193, t194, t195⟩, A70, H⟩ := H; replace H : (some (t193, t194, t195)) = some (r1, r2, r3) := H; have A7 := Aside0.mk A70; clear A70; simp only [Option.some.injEq, Prod.mk.injEq] at H; obtain ⟨rfl, rfl, rfl⟩ := H
    go_enter Tryd.func29, Tryd.ntmps29
    go_wp2_with (first | ((with_reducible refine gate_dst (N := 2) rfl ?_); refine box_event ?hg (N := 2) ?hd (cs := #[.int .i64 0, .bool false, .int .i64 0]) (t := 52) ?hr ?_; (case hd => rfl); (case hg => rfl); (case hr => first | (go_simp; done) | (go_simp; rfl)); intro gb187 hg w8 hbox hb; have n0_ := Aside0.mk (below_step (zH HB.out) hb); have n1_ := Aside0.mk (hbox); have n2_ := Aside0.mk (zg hg (below_size (zH HB.out)) : w.heap.size ≤ gb187); have n3_ := Aside0.mk (zg hg (below_size (zH HB.out)) : w.heap.size ≤ gb187); clear HB; have HB := n0_; have BK187 := n1_; have GW187 := n2_; have GE187 := n3_; clear n0_ n1_ n2_ n3_; clear hb hbox hg; have CA6 := fun W hG_ => pledgesee_sentinel.calls (some q188) t192 W hG_ A6.out; try simp only [errW_none, errW_some] at CA6) | (go_at_call 47; (with_reducible refine (CA6 _ ?side1).mono ?_); (case side1 => exact GlobOK.below HG.out (zH1 HB.out GE187.out)); rintro e w9 ⟨rfl, hb⟩; have n0_ := zBB BK187 hb; have n1_ := Aside0.mk (below_step (zH1 HB.out GE187.out) hb); clear BK187; clear HB; have BK187 := n0_; have HB := n1_; clear n0_ n1_; (try clear hb); (try clear hb2); (try clear hk); (try clear hi)) | ((with_reducible refine gate_callee (f := 19) rfl ?_); refine goesL_ (some 17) rfl rfl Tryd.func19 (by kernel_rfl) rfl #[.int .i64 t192] rfl zM ?_; (with_reducible refine (pledgeref_Bare.calls t192 t193 t194 t195 _ A7.out).mono ?_); rintro e w10 ⟨rfl, hb⟩; refine ⟨_, rfl, ?_⟩; have n0_ := zBB BK187 hb; have n1_ := Aside0.mk (below_step (zH1 HB.out GE187.out) hb); clear BK187; clear HB; have BK187 := n0_; have HB := n1_; clear n0_ n1_; (try clear hb); (try clear hb2); (try clear hk); (try clear hi); have hcz11_0 : w10.cell? ⟨gb187, 0, none⟩ = some (.int .i64 0) := (blk_cell BK187.out 0).trans rfl; have hcz11_1 : w10.cell? ⟨gb187, 1, none⟩ = some (.bool false) := (blk_cell BK187.out 1).trans rfl; have hcz11_2 : w10.cell? ⟨gb187, 2, none⟩ = some (.int .i64 0) := (blk_cell BK187.out 2).trans rfl; have hfz11_0 := blk_frozen BK187.out 0; have hfz11_1 := blk_frozen BK187.out 1; have hfz11_2 := blk_frozen BK187.out 2))
    refine bodyPost_ret (results_cell_row rfl _ _ gb187 52 #[.int .i64 t193, .bool t194, .int .i64 t195] (0, 0) _ rfl (by (with_reducible repeat (first | refine blk_drewN ?_ _ | refine blk_drew ?_ | refine blk_alloc ?_ _)); refine blk_put (cs := #[.int .i64 t193, .bool t194, .int .i64 0]) ?_ 2 _ rfl; (with_reducible repeat (first | refine blk_drewN ?_ _ | refine blk_drew ?_ | refine blk_alloc ?_ _)); refine blk_put (cs := #[.int .i64 t193, .bool false, .int .i64 0]) ?_ 1 _ rfl; (with_reducible repeat (first | refine blk_drewN ?_ _ | refine blk_drew ?_ | refine blk_alloc ?_ _)); refine blk_put (cs := #[.int .i64 0, .bool false, .int .i64 0]) ?_ 0 _ rfl; (with_reducible repeat (first | refine blk_drewN ?_ _ | refine blk_drew ?_ | refine blk_alloc ?_ _)); exact BK187.out) Tryd.underlying52 rfl (by kernel_rfl)) rfl ?_; exact ⟨zE, zH1 HB.out GE187.out⟩

/-! ### pledgesee_Same: function 18 -/
def pledgesee_Same.f (a0 : Option Int) (a1_0 : Int) (a1_1 : Bool) (a1_2 : Int) : Option (Bool) := (pledgesee_Fault.f a0).bind fun bt197 => ((pledgeref_SameFault.f bt197.1 bt197.2.1 bt197.2.2 a1_0 a1_1 a1_2).bind fun t200 => (some t200))
set_option maxHeartbeats 8000000 in
set_option maxRecDepth 100000 in
theorem pledgesee_Same.calls [Inhabited (Int → Addr)] (a0 : Option Int) (a1_0 : Int) (a1_1 : Bool) (a1_2 : Int) (r : Bool) (w : World) (hG : GlobOK w) (h : pledgesee_Same.f a0 a1_0 a1_1 a1_2 = some r) :
    Calls Tryd.prog 18 #[errW a0, .agg #[.int .i64 a1_0, .bool a1_1, .int .i64 a1_2]] w fun e w' => e = .returned (.bool r) ∧ Below w.heap.size w w' := by
  have hu52 := Tryd.underlying52; have HG := Aside0.mk hG; clear hG; have HB := Aside0.mk (Below.refl w.heap.size w); have H : ((pledgesee_Fault.f a0).bind fun bt197 => ((pledgeref_SameFault.f bt197.1 bt197.2.1 bt197.2.2 a1_0 a1_1 a1_2).bind fun t200 => (some t200))) = some r := h; clear h; replace H := Option.bind_eq_some_iff.mp H; obtain ⟨⟨t197, t198, t199⟩, A30, H⟩ := H; replace H : ((pledgeref_SameFault.f t197 t198 t199 a1_0 a1_1 a1_2).bind fun t200 => (some t200)) = some r := H; have A3 := Aside0.mk A30; clear A30; replace H := Option.bind_eq_some_iff.mp H; obtain ⟨t200, A40, H⟩ := H; replace H : (some t200) = some r := H; have A4 := Aside0.mk A40; clear A40; obtain rfl := Option.some.inj H
  go_enter Tryd.func18, Tryd.ntmps18
  try go_wp2_with (first | ((with_reducible refine gate_dst (N := 3) rfl ?_); refine box_event ?hg (N := 3) ?hd (cs := #[.int .i64 a1_0, .bool a1_1, .int .i64 a1_2]) (t := 52) ?hr ?_; (case hd => rfl); (case hg => rfl); (case hr => first | (go_simp; done) | (go_simp; rfl)); intro gb196 hg w5 hbox hb; have n0_ := Aside0.mk (below_step (zH HB.out) hb); have n1_ := Aside0.mk (hbox); have n2_ := Aside0.mk (zg hg (below_size (zH HB.out)) : w.heap.size ≤ gb196); have n3_ := Aside0.mk (zg hg (below_size (zH HB.out)) : w.heap.size ≤ gb196); clear HB; have HB := n0_; have BK196 := n1_; have GW196 := n2_; have GE196 := n3_; clear n0_ n1_ n2_ n3_; clear hb hbox hg))
  have n0_ := Aside0.mk (blk_drew BK196.out); have n1_ := Aside0.mk (below_drew1 HB.out); clear BK196; clear HB; have BK196 := n0_; have HB := n1_; clear n0_ n1_; have CA3 := fun W hG_ => pledgesee_Fault.calls a0 t197 t198 t199 W hG_ A3.out
  try simp only [errW_none, errW_some] at CA3
  refine start_ (n := 5) (S := fun w' => w'.cell? ⟨gb196, 0, none⟩ = some (.int .i64 a1_0) ∧ w'.cell? ⟨gb196, 1, none⟩ = some (.bool a1_1) ∧ w'.cell? ⟨gb196, 2, none⟩ = some (.int .i64 a1_2)) (ds := []) #[false, false, false, false, false] (by kernel_rfl) rfl rfl ⟨(blk_cell BK196.out 0).trans rfl, (blk_cell BK196.out 1).trans rfl, (blk_cell BK196.out 2).trans rfl⟩ (fun hHeld => ?_); generalize w5.drew = w6 at BK196 HB hHeld ⊢; refine pure_ (i := 0) (N := some 5) (v := ?_) (a' := ?_) #[true, false, false, false, false] rfl rfl (by kernel_rfl) (fun _ _ _ h => h) (Or.inl ⟨by rfl, ?_⟩) ?_ ?_; rotate_left
  · intro w'
    go_simp
    with_reducible rfl
  rotate_left
  · simp only [Act.put, zq1, zq2, zq3, i64_w, i32_w]
    rfl
  refine take_ (i := 2) (N := some 7) (v := ?_) (a' := ?_) #[true, false, true, false, false] rfl rfl (by kernel_rfl) (fun _ _ _ h => h) (Or.inl ⟨by rfl, ?_⟩) hHeld ?_ ?_; rotate_left
  · rintro w' ⟨s0, s1, s2⟩
    go_simp
    with_reducible rfl
  rotate_left
  · simp only [Act.put, zq1, zq2, zq3, i64_w, i32_w]
    rfl
  refine one_ (i := 1) (N := some 6) #[true, true, true, false, false] rfl rfl (by kernel_rfl) (by decide) (fun K hK => ?_); refine goes_ Tryd.func29 (by kernel_rfl) rfl #[errW a0] (by rfl) rfl rfl zM ?_
  with_reducible refine (CA3 _ ?side1).mono ?_
  (case side1 => exact GlobOK.below HG.out (zH1 HB.out GE196.out))
  rintro e w7 ⟨rfl, hb⟩; refine ⟨_, rfl, ?_⟩; have n0_ := zBB BK196 hb; have n1_ := Aside0.mk (below_step (zH1 HB.out GE196.out) hb); clear BK196; clear HB; have BK196 := n0_; have HB := n1_; clear n0_ n1_; (try clear hb); (try clear hb2); (try clear hk); (try clear hi); refine hK.out _ _ ⟨(blk_cell BK196.out 0).trans rfl, (blk_cell BK196.out 1).trans rfl, (blk_cell BK196.out 2).trans rfl⟩ (fun hHeld => ?_); clear hK K; refine norm_ (a' := ?_) ?_ ?_; rotate_left
  · show Act.put _ (some 6) _ = _
    simp only [Act.put, zq1, zq2, zq3, i64_w, i32_w]; rfl
  refine one_ (i := 3) (N := some 8) #[true, true, true, true, false] rfl rfl (by kernel_rfl) (by decide) (fun K hK => ?_); refine goes_ Tryd.func28 (by kernel_rfl) rfl #[.agg #[.int .i64 t197, .bool t198, .int .i64 t199], .agg #[.int .i64 a1_0, .bool a1_1, .int .i64 a1_2]] (by rfl) rfl rfl zM ?_
  with_reducible refine (pledgeref_SameFault.calls t197 t198 t199 a1_0 a1_1 a1_2 t200 _ A4.out).mono ?_
  rintro e w8 ⟨rfl, hb⟩; refine ⟨_, rfl, ?_⟩; have n0_ := zBB BK196 hb; have n1_ := Aside0.mk (below_step (zH1 HB.out GE196.out) hb); clear BK196; clear HB; have BK196 := n0_; have HB := n1_; clear n0_ n1_; (try clear hb); (try clear hb2); (try clear hk); (try clear hi); refine hK.out _ _ ⟨(blk_cell BK196.out 0).trans rfl, (blk_cell BK196.out 1).trans rfl, (blk_cell BK196.out 2).trans rfl⟩ (fun hHeld => ?_); clear hK K; refine norm_ (a' := ?_) ?_ ?_; rotate_left
  · show Act.put _ (some 8) _ = _
    simp only [Act.put, zq1, zq2, zq3, i64_w, i32_w]; rfl
  refine pure_ (i := 4) (N := some 4) (v := ?_) (a' := ?_) #[true, true, true, true, true] rfl rfl (by kernel_rfl) (fun _ _ _ h => h) (Or.inl ⟨by rfl, ?_⟩) ?_ ?_; rotate_left
  · intro w'
    go_simp
    with_reducible rfl
  rotate_left
  · simp only [Act.put, zq1, zq2, zq3, i64_w, i32_w]
    rfl
  refine done_ (by kernel_rfl) ?_
  try go_wp2
  go_ret
  exact ⟨zE, zH1 HB.out GE196.out⟩

/-! ### pledgesee_Is: function 9 -/
def pledgesee_Is.f (a0 : Option Int) (a1 : Int) : Option (Bool) := (pledgeref_Bare.f a1).bind fun bt201 => ((pledgesee_Same.f a0 bt201.1 bt201.2.1 bt201.2.2).bind fun t204 => (some t204))
set_option maxHeartbeats 8000000 in
set_option maxRecDepth 100000 in
theorem pledgesee_Is.calls [Inhabited (Int → Addr)] (a0 : Option Int) (a1 : Int) (r : Bool) (w : World) (hG : GlobOK w) (h : pledgesee_Is.f a0 a1 = some r) :
    Calls Tryd.prog 9 #[errW a0, .int .i64 a1] w fun e w' => e = .returned (.bool r) ∧ Below w.heap.size w w' := by
  have HG := Aside0.mk hG; clear hG; have HB := Aside0.mk (Below.refl w.heap.size w); have H : ((pledgeref_Bare.f a1).bind fun bt201 => ((pledgesee_Same.f a0 bt201.1 bt201.2.1 bt201.2.2).bind fun t204 => (some t204))) = some r := h; clear h; replace H := Option.bind_eq_some_iff.mp H; obtain ⟨⟨t201, t202, t203⟩, A30, H⟩ := H; replace H : ((pledgesee_Same.f a0 t201 t202 t203).bind fun t204 => (some t204)) = some r := H; have A3 := Aside0.mk A30; clear A30; replace H := Option.bind_eq_some_iff.mp H; obtain ⟨t204, A40, H⟩ := H; replace H : (some t204) = some r := H; have A4 := Aside0.mk A40; clear A40; obtain rfl := Option.some.inj H
  go_enter Tryd.func9, Tryd.ntmps9
  go_wp2_with (first | ((with_reducible refine gate_callee (f := 19) rfl ?_); refine goesL_ (some 7) rfl rfl Tryd.func19 (by kernel_rfl) rfl #[.int .i64 a1] rfl zM ?_; (with_reducible refine (pledgeref_Bare.calls a1 t201 t202 t203 _ A3.out).mono ?_); rintro e w5 ⟨rfl, hb⟩; refine ⟨_, rfl, ?_⟩; have n0_ := Aside0.mk (below_step (zH HB.out) hb); clear HB; have HB := n0_; clear n0_; (try clear hb); (try clear hb2); (try clear hk); (try clear hi); have CA4 := fun W hG_ => pledgesee_Same.calls a0 t201 t202 t203 t204 W hG_ A4.out; try simp only [errW_none, errW_some] at CA4) | (go_at_call 18; (with_reducible refine (CA4 _ ?side1).mono ?_); (case side1 => exact GlobOK.below HG.out (zH HB.out)); rintro e w6 ⟨rfl, hb⟩; have n0_ := Aside0.mk (below_step (zH HB.out) hb); clear HB; have HB := n0_; clear n0_; (try clear hb); (try clear hb2); (try clear hk); (try clear hi)))
  go_ret
  exact ⟨zE, zH HB.out⟩

/-! ### lots_Cost: function 22 -/
def lots_Cost.l0 : Nat → Int → List Int → Int → Int → List (S47) → List Int → Int → Option (Int × Bool)
 | 0, _, _, _, _, _, _, _ => none
 | k + 1, x6, x13, x14, x15, x206000, x206001, x206002 => if x15 < x14 then (if 0 ≤ x15 then (if x15 < (x13.length : Int) then (if x15 < (x206000.length : Int) then (lots_Cost.l0 k (wrap64 (x6 + (wrap64 ((rd x13 x15) * ((rd_T47 x206000 x15).f2))))) x13 x14 (wrap64 (x15 + 1)) x206000 x206001 x206002) else (none)) else (none)) else (none)) else (some (x6, true))
def lots_Cost.f (k : Nat) (l0_0 : List (S47)) (l0_1 : List Int) (a0_2 : Int) (l1 : List Int) : Option (Int × Bool) := (lots_fits.f k l0_0 l0_1 a0_2 l1).bind fun t206 => (if t206 = true then (lots_Cost.l0 k 0 l1 (l1.length : Int) 0 l0_0 l0_1 a0_2) else (some (0, false)))
theorem lots_Cost.mono_l : ∀ k, (∀ y0 y1 y2 y3 y4 y5 y6, LeO (lots_Cost.l0 k y0 y1 y2 y3 y4 y5 y6) (lots_Cost.l0 (k + 1) y0 y1 y2 y3 y4 y5 y6))
 | 0 => fun _ _ _ _ _ _ _ r h => by simp [lots_Cost.l0] at h
 | k + 1 => by
  have ih0 := lots_Cost.mono_l k
  ·
   intro y0 y1 y2 y3 y4 y5 y6; unfold lots_Cost.l0
   repeat' first
   | (with_reducible exact ih0 _ _ _ _ _ _ _)
   | (with_reducible exact lots_fits.mono _ _ _ _ _)
   | (with_reducible exact LeO.refl _)
   | (with_reducible exact LeO.none _)
   | (with_reducible refine LeO.ite ?_ ?_)
   | (with_reducible refine LeO.bind ?_ (fun _ => ?_))
   | exact ih0 _ _ _ _ _ _ _
   | exact lots_fits.mono _ _ _ _ _
   | exact LeO.none _
   | refine LeO.ite ?_ ?_
   | refine LeO.bind ?_ (fun _ => ?_)
theorem lots_Cost.mono : ∀ a0 a1 a2 a3 k, LeO (lots_Cost.f k a0 a1 a2 a3) (lots_Cost.f (k + 1) a0 a1 a2 a3) := by
 intro a0 a1 a2 a3 k; have ih0 := lots_Cost.mono_l k; unfold lots_Cost.f
 repeat' first
   | (with_reducible exact ih0 _ _ _ _ _ _ _)
   | (with_reducible exact lots_fits.mono _ _ _ _ _)
   | (with_reducible exact LeO.refl _)
   | (with_reducible exact LeO.none _)
   | (with_reducible refine LeO.ite ?_ ?_)
   | (with_reducible refine LeO.bind ?_ (fun _ => ?_))
   | exact ih0 _ _ _ _ _ _ _
   | exact lots_fits.mono _ _ _ _ _
   | exact LeO.none _
   | refine LeO.ite ?_ ?_
   | refine LeO.bind ?_ (fun _ => ?_)
set_option maxHeartbeats 8000000 in
set_option maxRecDepth 100000 in
theorem lots_Cost.calls [Inhabited (Int → Addr)] (k : Nat) (A0_0 : Option Addr) (c0_0 : Nat) (l0_0 : List (S47)) (A0_1 : Option Addr) (c0_1 : Nat) (l0_1 : List Int) (a0_2 : Int) (A1 : Option Addr) (c1 : Nat) (l1 : List Int) (r1 : Int) (r2 : Bool) (w : World) (hG : GlobOK w) (hr0_0 : Kd.C k47 w A0_0 l0_0.length l0_0) (hc0_0 : l0_0.length ≤ c0_0) (hr0_1 : Kd.C (Kd.int .i64) w A0_1 l0_1.length l0_1) (hc0_1 : l0_1.length ≤ c0_1) (hr1 : Kd.C (Kd.int .i64) w A1 l1.length l1) (hc1 : l1.length ≤ c1) (h : lots_Cost.f k l0_0 l0_1 a0_2 l1 = some (r1, r2)) :
  Calls Tryd.prog 22 #[.agg #[.slice A0_0 l0_0.length c0_0, .slice A0_1 l0_1.length c0_1, .int .i64 a0_2], .slice A1 l1.length c1] w fun e w' => e = .returned (.tuple #[.int .i64 r1, .bool r2]) ∧ Below w.heap.size w w' := by
 have hu25 := Tryd.underlying25; have HG := Aside0.mk hG; clear hG; have HR0_0 := Aside0.mk hr0_0; have HC0_0 := Aside0.mk hc0_0; clear hr0_0 hc0_0; have HR0_1 := Aside0.mk hr0_1; have HC0_1 := Aside0.mk hc0_1; clear hr0_1 hc0_1; have HR1 := Aside0.mk hr1; have HC1 := Aside0.mk hc1; clear hr1 hc1; have HB := Aside0.mk (Below.refl w.heap.size w); have H : ((lots_fits.f k l0_0 l0_1 a0_2 l1).bind fun t206 => (if t206 = true then (lots_Cost.l0 k 0 l1 (l1.length : Int) 0 l0_0 l0_1 a0_2) else (some (0, false)))) = some (r1, r2) := h; clear h; replace H := Option.bind_eq_some_iff.mp H; obtain ⟨t206, A30, H⟩ := H; replace H : (if t206 = true then (lots_Cost.l0 k 0 l1 (l1.length : Int) 0 l0_0 l0_1 a0_2) else (some (0, false))) = some (r1, r2) := H; have A3 := Aside0.mk A30; clear A30; by_cases c4 : t206 = true
 ·
  subst c4; have H1 : (lots_Cost.l0 k 0 l1 (l1.length : Int) 0 l0_0 l0_1 a0_2) = some (r1, r2) := by rw [if_pos rfl] at H; exact H
  clear H; have H := H1; clear H1; have H' := Aside0.mk H; clear H
  go_enter Tryd.func22, Tryd.ntmps22
  go_wp2_with (first | ((with_reducible refine gate_dst (N := 2) rfl ?_); refine box_event ?hg (N := 2) ?hd (cs := #[.slice A0_0 l0_0.length c0_0, .slice A0_1 l0_1.length c0_1, .int .i64 a0_2]) (t := 25) ?hr ?_; (case hd => rfl); (case hg => rfl); (case hr => first | (go_simp; done) | (go_simp; rfl)); intro gb205 hg w5 hbox hb; have n0_ := Aside0.mk (below_step (zH HB.out) hb); have n1_ := Aside0.mk (hbox); have n2_ := Aside0.mk (zg hg (below_size (zH HB.out)) : w.heap.size ≤ gb205); have n3_ := Aside0.mk (zg hg (below_size (zH HB.out)) : w.heap.size ≤ gb205); clear HB; have HB := n0_; have BK205 := n1_; have GW205 := n2_; have GE205 := n3_; clear n0_ n1_ n2_ n3_; clear hb hbox hg; have hcz6_0 : w5.cell? ⟨gb205, 0, none⟩ = some (.slice A0_0 l0_0.length c0_0) := (blk_cell BK205.out 0).trans rfl; have hcz6_1 : w5.cell? ⟨gb205, 1, none⟩ = some (.slice A0_1 l0_1.length c0_1) := (blk_cell BK205.out 1).trans rfl; have hcz6_2 : w5.cell? ⟨gb205, 2, none⟩ = some (.int .i64 a0_2) := (blk_cell BK205.out 2).trans rfl; have hfz6_0 := blk_frozen BK205.out 0; have hfz6_1 := blk_frozen BK205.out 1; have hfz6_2 := blk_frozen BK205.out 2) | ((with_reducible refine gate_callee (f := 36) rfl ?_); refine goesL_ (some 11) rfl rfl Tryd.func36 (by kernel_rfl) rfl #[.agg #[.slice A0_0 l0_0.length c0_0, .slice A0_1 l0_1.length c0_1, .int .i64 a0_2], .slice A1 l1.length c1] rfl zM ?_; (with_reducible refine (lots_fits.calls k _ _ l0_0 _ _ l0_1 a0_2 _ _ l1 true _ ?side1 ?side2 ?side3 ?side4 ?side5 ?side6 ?side7 A3.out).mono ?_); (case side1 => exact GlobOK.below HG.out (zH1 HB.out GE205.out)); (case side2 => exact zC HR0_0.out HB.out); (case side3 => exact HC0_0.out); (case side4 => exact zC HR0_1.out HB.out); (case side5 => exact HC0_1.out); (case side6 => exact zC HR1.out HB.out); (case side7 => exact HC1.out); rintro e w7 ⟨rfl, hb⟩; refine ⟨_, rfl, ?_⟩; have n0_ := zBB BK205 hb; have n1_ := Aside0.mk (below_step (zH1 HB.out GE205.out) hb); clear BK205; clear HB; have BK205 := n0_; have HB := n1_; clear n0_ n1_; (try clear hb); (try clear hb2); (try clear hk); (try clear hi)))
  go_loopg [6, 15] k (fun kq v6 v15 w' => ∃ (x6_1 : Int) (x15_1 : Int), v6 = .int .i64 x6_1 ∧ v15 = .int .i64 x15_1 ∧ Aside0 (lots_Cost.l0 kq x6_1 l1 (l1.length : Int) x15_1 l0_0 l0_1 a0_2 = some (r1, r2)) ∧ Aside0 (kq ≤ k) ∧ Aside0 (w'.heap[gb205]? = some (.cells #[(.slice A0_0 l0_0.length c0_0), (.slice A0_1 l0_1.length c0_1), .int .i64 a0_2] 25 (0, 0))) ∧ Aside0 (Below w.heap.size w w'))
  case atStart => exact ⟨(0), (0), zS, zS, H', ⟨Nat.le_refl _⟩, ⟨zB BK205.out⟩, ⟨zH1 HB.out GE205.out⟩⟩
  case round =>
   clear H'
   try clear c1
   try clear c2
   try clear p2
   try clear c3
   try clear c4
   try clear hcz6_0
   try clear hcz6_1
   try clear hcz6_2
   try clear hfz6_0
   try clear hfz6_1
   try clear hfz6_2
   obtain ⟨x6_1, x15_1, rfl, rfl, HA, HK1, BK205, HB⟩ := hrel
   cases gk with
   | zero => exact absurd HA.out (by simp [lots_Cost.l0])
   | succ k1 =>
    have H := HA.out; clear HA; simp only [lots_Cost.l0] at H; by_cases c8 : x15_1 < (l1.length : Int)
    ·
     rw [if_pos c8] at H; have c8b0 : decide (x15_1 < (l1.length : Int)) = true := decide_eq_true c8; clear c8; by_cases c9 : 0 ≤ x15_1
     ·
      rw [if_pos c9] at H; have c9b0 : decide (0 ≤ x15_1) = true := decide_eq_true c9; clear c9; by_cases c10 : x15_1 < (l1.length : Int)
      ·
       rw [if_pos c10] at H; have c10b0 : decide (x15_1 < (l1.length : Int)) = true := decide_eq_true c10; clear c10; by_cases c11 : x15_1 < (l0_0.length : Int)
       ·
        rw [if_pos c11] at H; have c11b0 : decide (x15_1 < (l0_0.length : Int)) = true := decide_eq_true c11; clear c11; have H' := Aside0.mk H; clear H; have p207 : 0 ≤ (x15_1 : Int) := of_decide_eq_true zA; have q207 : x15_1 < (l1.length : Int) := of_decide_eq_true zA; obtain ⟨ad207, e207, hx207_0⟩ := Kd.at_int HR1.out x15_1 p207 q207
        cases e207
        replace hx207_0 := (HB.out.cell (World.block_lt_of_cell? w _ hx207_0)).trans hx207_0; replace p207 := eq_true p207; replace q207 := eq_true q207; have hcz12_0 : wr.cell? ⟨gb205, 0, none⟩ = some (.slice A0_0 l0_0.length c0_0) := (blk_cell BK205.out 0).trans rfl; have hcz12_1 : wr.cell? ⟨gb205, 1, none⟩ = some (.slice A0_1 l0_1.length c0_1) := (blk_cell BK205.out 1).trans rfl; have hcz12_2 : wr.cell? ⟨gb205, 2, none⟩ = some (.int .i64 a0_2) := (blk_cell BK205.out 2).trans rfl; have hfz12_0 := blk_frozen BK205.out 0; have hfz12_1 := blk_frozen BK205.out 1; have hfz12_2 := blk_frozen BK205.out 2; have p208 : 0 ≤ (x15_1 : Int) := of_decide_eq_true zA; have q208 : x15_1 < (l0_0.length : Int) := of_decide_eq_true zA; obtain ⟨ad208, e208, hx208_0, hx208_1, hx208_2, hx208_3⟩ := at_T47 HR0_0.out x15_1 p208 q208
        cases e208
        replace hx208_0 := (HB.out.cell (World.block_lt_of_cell? w _ hx208_0)).trans hx208_0; replace hx208_1 := (HB.out.cell (World.block_lt_of_cell? w _ hx208_1)).trans hx208_1; replace hx208_2 := (HB.out.cell (World.block_lt_of_cell? w _ hx208_2)).trans hx208_2; replace hx208_3 := (HB.out.cell (World.block_lt_of_cell? w _ hx208_3)).trans hx208_3; replace p208 := eq_true p208; replace q208 := eq_true q208
        go_wp2
        go_roundg k1
        case measure => have := HK1.out; omega
        case rel => exact ⟨(wrap64 (x6_1 + (wrap64 ((rd l1 x15_1) * ((rd_T47 l0_0 x15_1).f2))))), (wrap64 (x15_1 + 1)), zS, zS, H', ⟨by have := HK1.out; omega⟩, ⟨zB BK205.out⟩, ⟨zH1 HB.out GE205.out⟩⟩
       ·
        rw [if_neg c11] at H; exact absurd H (by simp)
      ·
       rw [if_neg c10] at H; exact absurd H (by simp)
     ·
      rw [if_neg c9] at H; exact absurd H (by simp)
    ·
     rw [if_neg c8] at H; have c8b0 : decide (x15_1 < (l1.length : Int)) = false := decide_eq_false c8; clear c8; simp only [Option.some.injEq, Prod.mk.injEq] at H; obtain ⟨rfl, rfl⟩ := H
     go_wp2
     go_ret2
     exact ⟨zE, zH1 HB.out GE205.out⟩
 ·
  replace c4 := Bool.eq_false_iff.mpr c4; subst c4; have H1 : (some (0, false)) = some (r1, r2) := by rw [if_neg (show ¬ (false = true) by decide)] at H; exact H
  clear H; have H := H1; clear H1; simp only [Option.some.injEq, Prod.mk.injEq] at H; obtain ⟨rfl, rfl⟩ := H
  go_enter Tryd.func22, Tryd.ntmps22
  go_wp2_with (first | ((with_reducible refine gate_dst (N := 2) rfl ?_); refine box_event ?hg (N := 2) ?hd (cs := #[.slice A0_0 l0_0.length c0_0, .slice A0_1 l0_1.length c0_1, .int .i64 a0_2]) (t := 25) ?hr ?_; (case hd => rfl); (case hg => rfl); (case hr => first | (go_simp; done) | (go_simp; rfl)); intro gb205 hg w13 hbox hb; have n0_ := Aside0.mk (below_step (zH HB.out) hb); have n1_ := Aside0.mk (hbox); have n2_ := Aside0.mk (zg hg (below_size (zH HB.out)) : w.heap.size ≤ gb205); have n3_ := Aside0.mk (zg hg (below_size (zH HB.out)) : w.heap.size ≤ gb205); clear HB; have HB := n0_; have BK205 := n1_; have GW205 := n2_; have GE205 := n3_; clear n0_ n1_ n2_ n3_; clear hb hbox hg; have hcz14_0 : w13.cell? ⟨gb205, 0, none⟩ = some (.slice A0_0 l0_0.length c0_0) := (blk_cell BK205.out 0).trans rfl; have hcz14_1 : w13.cell? ⟨gb205, 1, none⟩ = some (.slice A0_1 l0_1.length c0_1) := (blk_cell BK205.out 1).trans rfl; have hcz14_2 : w13.cell? ⟨gb205, 2, none⟩ = some (.int .i64 a0_2) := (blk_cell BK205.out 2).trans rfl; have hfz14_0 := blk_frozen BK205.out 0; have hfz14_1 := blk_frozen BK205.out 1; have hfz14_2 := blk_frozen BK205.out 2) | ((with_reducible refine gate_callee (f := 36) rfl ?_); refine goesL_ (some 11) rfl rfl Tryd.func36 (by kernel_rfl) rfl #[.agg #[.slice A0_0 l0_0.length c0_0, .slice A0_1 l0_1.length c0_1, .int .i64 a0_2], .slice A1 l1.length c1] rfl zM ?_; (with_reducible refine (lots_fits.calls k _ _ l0_0 _ _ l0_1 a0_2 _ _ l1 false _ ?side1 ?side2 ?side3 ?side4 ?side5 ?side6 ?side7 A3.out).mono ?_); (case side1 => exact GlobOK.below HG.out (zH1 HB.out GE205.out)); (case side2 => exact zC HR0_0.out HB.out); (case side3 => exact HC0_0.out); (case side4 => exact zC HR0_1.out HB.out); (case side5 => exact HC0_1.out); (case side6 => exact zC HR1.out HB.out); (case side7 => exact HC1.out); rintro e w15 ⟨rfl, hb⟩; refine ⟨_, rfl, ?_⟩; have n0_ := zBB BK205 hb; have n1_ := Aside0.mk (below_step (zH1 HB.out GE205.out) hb); clear BK205; clear HB; have BK205 := n0_; have HB := n1_; clear n0_ n1_; (try clear hb); (try clear hb2); (try clear hk); (try clear hi)))
  go_ret2
  exact ⟨zE, zH1 HB.out GE205.out⟩

/-! ### cert_Check: function 10 -/
def cert_Check.j0 : Nat → Int → Bool → List (S47) → List Int → Int → Option (Option Int)
 | 0, _, _, _, _, _ => none
 | k + 1, x6, x29, x210000, x210001, x210002 => if x29 = true then (some (some 102)) else (if x6 < x210002 then (some (some 115)) else (some none))
def cert_Check.f (k : Nat) (l0_0 : List (S47)) (l0_1 : List Int) (a0_2 : Int) (l1_0 : List Int) (a1_1 : Int) (a1_2 : Int) (a1_3 : Bool) (a1_4 : Int) : Option (Option Int) := (lots_Valid.f l0_0 l0_1 a0_2).bind fun t211 => (if t211.isNone = true then ((lots_Worth.f k l0_0 l0_1 a0_2 l1_0).bind fun bt213 => ((lots_Cost.f k l0_0 l0_1 a0_2 l1_0).bind fun bt215 => (if bt213.2 = true then (if bt213.1 = a1_1 then (cert_Check.j0 k bt213.1 (bt215.1 != a1_2) l0_0 l0_1 a0_2) else (cert_Check.j0 k bt213.1 true l0_0 l0_1 a0_2)) else (cert_Check.j0 k bt213.1 true l0_0 l0_1 a0_2)))) else (some (some (t211.getD 0))))
theorem cert_Check.mono_l : ∀ k, (∀ y0 y1 y2 y3 y4, LeO (cert_Check.j0 k y0 y1 y2 y3 y4) (cert_Check.j0 (k + 1) y0 y1 y2 y3 y4))
 | 0 => fun _ _ _ _ _ r h => by simp [cert_Check.j0] at h
 | k + 1 => by
  have ih0 := cert_Check.mono_l k
  ·
   intro y0 y1 y2 y3 y4; unfold cert_Check.j0
   repeat' first
   | (with_reducible exact ih0 _ _ _ _ _)
   | (with_reducible exact lots_Cost.mono _ _ _ _ _)
   | (with_reducible exact lots_Worth.mono _ _ _ _ _)
   | (with_reducible exact LeO.refl _)
   | (with_reducible exact LeO.none _)
   | (with_reducible refine LeO.ite ?_ ?_)
   | (with_reducible refine LeO.bind ?_ (fun _ => ?_))
   | exact ih0 _ _ _ _ _
   | exact lots_Cost.mono _ _ _ _ _
   | exact lots_Worth.mono _ _ _ _ _
   | exact LeO.none _
   | refine LeO.ite ?_ ?_
   | refine LeO.bind ?_ (fun _ => ?_)
theorem cert_Check.mono : ∀ a0 a1 a2 a3 a4 a5 a6 a7 k, LeO (cert_Check.f k a0 a1 a2 a3 a4 a5 a6 a7) (cert_Check.f (k + 1) a0 a1 a2 a3 a4 a5 a6 a7) := by
 intro a0 a1 a2 a3 a4 a5 a6 a7 k; have ih0 := cert_Check.mono_l k; unfold cert_Check.f
 repeat' first
   | (with_reducible exact ih0 _ _ _ _ _)
   | (with_reducible exact lots_Cost.mono _ _ _ _ _)
   | (with_reducible exact lots_Worth.mono _ _ _ _ _)
   | (with_reducible exact LeO.refl _)
   | (with_reducible exact LeO.none _)
   | (with_reducible refine LeO.ite ?_ ?_)
   | (with_reducible refine LeO.bind ?_ (fun _ => ?_))
   | exact ih0 _ _ _ _ _
   | exact lots_Cost.mono _ _ _ _ _
   | exact lots_Worth.mono _ _ _ _ _
   | exact LeO.none _
   | refine LeO.ite ?_ ?_
   | refine LeO.bind ?_ (fun _ => ?_)
set_option maxHeartbeats 8000000 in
set_option maxRecDepth 100000 in
theorem cert_Check.calls [Inhabited (Int → Addr)] (k : Nat) (A0_0 : Option Addr) (c0_0 : Nat) (l0_0 : List (S47)) (A0_1 : Option Addr) (c0_1 : Nat) (l0_1 : List Int) (a0_2 : Int) (A1_0 : Option Addr) (c1_0 : Nat) (l1_0 : List Int) (a1_1 : Int) (a1_2 : Int) (a1_3 : Bool) (a1_4 : Int) (r : Option Int) (w : World) (hG : GlobOK w) (hr0_0 : Kd.C k47 w A0_0 l0_0.length l0_0) (hc0_0 : l0_0.length ≤ c0_0) (hr0_1 : Kd.C (Kd.int .i64) w A0_1 l0_1.length l0_1) (hc0_1 : l0_1.length ≤ c0_1) (hr1_0 : Kd.C (Kd.int .i64) w A1_0 l1_0.length l1_0) (hc1_0 : l1_0.length ≤ c1_0) (h : cert_Check.f k l0_0 l0_1 a0_2 l1_0 a1_1 a1_2 a1_3 a1_4 = some r) :
  Calls Tryd.prog 10 #[.agg #[.slice A0_0 l0_0.length c0_0, .slice A0_1 l0_1.length c0_1, .int .i64 a0_2], .agg #[.slice A1_0 l1_0.length c1_0, .int .i64 a1_1, .int .i64 a1_2, .bool a1_3, .int .i64 a1_4]] w fun e w' => e = .returned (errW r) ∧ Below w.heap.size w w' := by
 have hu25 := Tryd.underlying25; have hu28 := Tryd.underlying28; have hu36 := Tryd.underlying36; have hu107 := Tryd.underlying107; have HG := Aside0.mk hG; clear hG; have HR0_0 := Aside0.mk hr0_0; have HC0_0 := Aside0.mk hc0_0; clear hr0_0 hc0_0; have HR0_1 := Aside0.mk hr0_1; have HC0_1 := Aside0.mk hc0_1; clear hr0_1 hc0_1; have HR1_0 := Aside0.mk hr1_0; have HC1_0 := Aside0.mk hc1_0; clear hr1_0 hc1_0; have HB := Aside0.mk (Below.refl w.heap.size w); have H : ((lots_Valid.f l0_0 l0_1 a0_2).bind fun t211 => (if t211.isNone = true then ((lots_Worth.f k l0_0 l0_1 a0_2 l1_0).bind fun bt213 => ((lots_Cost.f k l0_0 l0_1 a0_2 l1_0).bind fun bt215 => (if bt213.2 = true then (if bt213.1 = a1_1 then (cert_Check.j0 k bt213.1 (bt215.1 != a1_2) l0_0 l0_1 a0_2) else (cert_Check.j0 k bt213.1 true l0_0 l0_1 a0_2)) else (cert_Check.j0 k bt213.1 true l0_0 l0_1 a0_2)))) else (some (some (t211.getD 0))))) = some r := h; clear h; replace H := Option.bind_eq_some_iff.mp H; obtain ⟨t211, A30, H⟩ := H; replace H : (if t211.isNone = true then ((lots_Worth.f k l0_0 l0_1 a0_2 l1_0).bind fun bt213 => ((lots_Cost.f k l0_0 l0_1 a0_2 l1_0).bind fun bt215 => (if bt213.2 = true then (if bt213.1 = a1_1 then (cert_Check.j0 k bt213.1 (bt215.1 != a1_2) l0_0 l0_1 a0_2) else (cert_Check.j0 k bt213.1 true l0_0 l0_1 a0_2)) else (cert_Check.j0 k bt213.1 true l0_0 l0_1 a0_2)))) else (some (some (t211.getD 0)))) = some r := H; have A3 := Aside0.mk A30; clear A30
 rcases t211 with _ | q212
 ·
  have H1 : ((lots_Worth.f k l0_0 l0_1 a0_2 l1_0).bind fun bt213 => ((lots_Cost.f k l0_0 l0_1 a0_2 l1_0).bind fun bt215 => (if bt213.2 = true then (if bt213.1 = a1_1 then (cert_Check.j0 k bt213.1 (bt215.1 != a1_2) l0_0 l0_1 a0_2) else (cert_Check.j0 k bt213.1 true l0_0 l0_1 a0_2)) else (cert_Check.j0 k bt213.1 true l0_0 l0_1 a0_2)))) = some r := by rw [if_pos (show (none : Option Int).isNone = true by rfl)] at H; exact H
  clear H; have H := H1; clear H1
  try simp only [errW_none, errW_some]
  replace H := Option.bind_eq_some_iff.mp H; obtain ⟨⟨t213, t214⟩, A40, H⟩ := H; replace H : ((lots_Cost.f k l0_0 l0_1 a0_2 l1_0).bind fun bt215 => (if t214 = true then (if t213 = a1_1 then (cert_Check.j0 k t213 (bt215.1 != a1_2) l0_0 l0_1 a0_2) else (cert_Check.j0 k t213 true l0_0 l0_1 a0_2)) else (cert_Check.j0 k t213 true l0_0 l0_1 a0_2))) = some r := H; have A4 := Aside0.mk A40; clear A40; replace H := Option.bind_eq_some_iff.mp H; obtain ⟨⟨t215, t216⟩, A50, H⟩ := H; replace H : (if t214 = true then (if t213 = a1_1 then (cert_Check.j0 k t213 (t215 != a1_2) l0_0 l0_1 a0_2) else (cert_Check.j0 k t213 true l0_0 l0_1 a0_2)) else (cert_Check.j0 k t213 true l0_0 l0_1 a0_2)) = some r := H; have A5 := Aside0.mk A50; clear A50; have HC6 := Aside0.mk H; clear H
  go_enter Tryd.func10, Tryd.ntmps10
  go_upto_region 6 with (first | ((with_reducible refine gate_dst (N := 2) rfl ?_); refine box_event ?hg (N := 2) ?hd (cs := #[.slice A0_0 l0_0.length c0_0, .slice A0_1 l0_1.length c0_1, .int .i64 a0_2]) (t := 25) ?hr ?_; (case hd => rfl); (case hg => rfl); (case hr => first | (go_simp; done) | (go_simp; rfl)); intro gb209 hg w7 hbox hb; have n0_ := Aside0.mk (below_step (zH HB.out) hb); have n1_ := Aside0.mk (hbox); have n2_ := Aside0.mk (zg hg (below_size (zH HB.out)) : w.heap.size ≤ gb209); have n3_ := Aside0.mk (zg hg (below_size (zH HB.out)) : w.heap.size ≤ gb209); clear HB; have HB := n0_; have BK209 := n1_; have GW209 := n2_; have GE209 := n3_; clear n0_ n1_ n2_ n3_; clear hb hbox hg) | ((with_reducible refine gate_dst (N := 3) rfl ?_); refine box_event ?hg (N := 3) ?hd (cs := #[.slice A1_0 l1_0.length c1_0, .int .i64 a1_1, .int .i64 a1_2, .bool a1_3, .int .i64 a1_4]) (t := 28) ?hr ?_; (case hd => rfl); (case hg => rfl); (case hr => first | (go_simp; done) | (go_simp; rfl)); intro gb210 hg w8 hbox hb; have n0_ := zBB BK209 hb; have n1_ := Aside0.mk (below_step (zH1 HB.out GE209.out) hb); have n2_ := Aside0.mk (hbox); have n3_ := Aside0.mk (zg hg (below_size (zH1 HB.out GE209.out)) : w.heap.size ≤ gb210); have n4_ := Aside0.mk (zg hg (below_size (zH1 HB.out GE209.out)) : w.heap.size ≤ gb210); have n5_ := Aside0.mk (zN hg BK209 : gb209 ≠ gb210); have n6_ := Aside0.mk (zO hg BK209 : gb210 ≠ gb209); clear BK209; clear HB; have BK209 := n0_; have HB := n1_; have BK210 := n2_; have GW210 := n3_; have GE210 := n4_; have NB209_210 := n5_; have NB210_209 := n6_; clear n0_ n1_ n2_ n3_ n4_ n5_ n6_; clear hb hbox hg; have hnb9 := NB209_210.out; have hnc9 := NB210_209.out; have hcz10_0 : w8.cell? ⟨gb209, 0, none⟩ = some (.slice A0_0 l0_0.length c0_0) := (blk_cell BK209.out 0).trans rfl; have hcz10_1 : w8.cell? ⟨gb209, 1, none⟩ = some (.slice A0_1 l0_1.length c0_1) := (blk_cell BK209.out 1).trans rfl; have hcz10_2 : w8.cell? ⟨gb209, 2, none⟩ = some (.int .i64 a0_2) := (blk_cell BK209.out 2).trans rfl; have hfz10_0 := blk_frozen BK209.out 0; have hfz10_1 := blk_frozen BK209.out 1; have hfz10_2 := blk_frozen BK209.out 2) | ((with_reducible refine gate_callee (f := 20) rfl ?_); refine goesL_ (some 11) rfl rfl Tryd.func20 (by kernel_rfl) rfl #[.agg #[.slice A0_0 l0_0.length c0_0, .slice A0_1 l0_1.length c0_1, .int .i64 a0_2]] rfl zM ?_; (with_reducible refine (lots_Valid.calls _ _ l0_0 _ _ l0_1 a0_2 none _ ?side1 ?side2 ?side3 ?side4 ?side5 A3.out).mono ?_); (case side1 => exact GlobOK.below HG.out (zH2 HB.out GE209.out GE210.out)); (case side2 => exact zC HR0_0.out HB.out); (case side3 => exact HC0_0.out); (case side4 => exact zC HR0_1.out HB.out); (case side5 => exact HC0_1.out); rintro e w11 ⟨rfl, hb⟩; refine ⟨_, rfl, ?_⟩; have n0_ := zBB BK209 hb; have n1_ := zBB BK210 hb; have n2_ := Aside0.mk (below_step (zH2 HB.out GE209.out GE210.out) hb); clear BK209; clear BK210; clear HB; have BK209 := n0_; have BK210 := n1_; have HB := n2_; clear n0_ n1_ n2_; (try clear hb); (try clear hb2); (try clear hk); (try clear hi); (try simp only [errW_none, errW_some]); have hcz12_0 : w11.cell? ⟨gb209, 0, none⟩ = some (.slice A0_0 l0_0.length c0_0) := (blk_cell BK209.out 0).trans rfl; have hcz12_1 : w11.cell? ⟨gb209, 1, none⟩ = some (.slice A0_1 l0_1.length c0_1) := (blk_cell BK209.out 1).trans rfl; have hcz12_2 : w11.cell? ⟨gb209, 2, none⟩ = some (.int .i64 a0_2) := (blk_cell BK209.out 2).trans rfl; have hfz12_0 := blk_frozen BK209.out 0; have hfz12_1 := blk_frozen BK209.out 1; have hfz12_2 := blk_frozen BK209.out 2; have hcz13_0 : w11.cell? ⟨gb210, 0, none⟩ = some (.slice A1_0 l1_0.length c1_0) := (blk_cell BK210.out 0).trans rfl; have hcz13_1 : w11.cell? ⟨gb210, 1, none⟩ = some (.int .i64 a1_1) := (blk_cell BK210.out 1).trans rfl; have hcz13_2 : w11.cell? ⟨gb210, 2, none⟩ = some (.int .i64 a1_2) := (blk_cell BK210.out 2).trans rfl; have hcz13_3 : w11.cell? ⟨gb210, 3, none⟩ = some (.bool a1_3) := (blk_cell BK210.out 3).trans rfl; have hcz13_4 : w11.cell? ⟨gb210, 4, none⟩ = some (.int .i64 a1_4) := (blk_cell BK210.out 4).trans rfl; have hfz13_0 := blk_frozen BK210.out 0; have hfz13_1 := blk_frozen BK210.out 1; have hfz13_2 := blk_frozen BK210.out 2; have hfz13_3 := blk_frozen BK210.out 3; have hfz13_4 := blk_frozen BK210.out 4) | ((with_reducible refine gate_callee (f := 21) rfl ?_); refine goesL_ (some 19) rfl rfl Tryd.func21 (by kernel_rfl) rfl #[.agg #[.slice A0_0 l0_0.length c0_0, .slice A0_1 l0_1.length c0_1, .int .i64 a0_2], .slice A1_0 l1_0.length c1_0] rfl zM ?_; (with_reducible refine (lots_Worth.calls k _ _ l0_0 _ _ l0_1 a0_2 _ _ l1_0 t213 t214 _ ?side1 ?side2 ?side3 ?side4 ?side5 ?side6 ?side7 A4.out).mono ?_); (case side1 => exact GlobOK.below HG.out (zH2 HB.out GE209.out GE210.out)); (case side2 => exact zC HR0_0.out HB.out); (case side3 => exact HC0_0.out); (case side4 => exact zC HR0_1.out HB.out); (case side5 => exact HC0_1.out); (case side6 => exact zC HR1_0.out HB.out); (case side7 => exact HC1_0.out); rintro e w14 ⟨rfl, hb⟩; refine ⟨_, rfl, ?_⟩; have n0_ := zBB BK209 hb; have n1_ := zBB BK210 hb; have n2_ := Aside0.mk (below_step (zH2 HB.out GE209.out GE210.out) hb); clear BK209; clear BK210; clear HB; have BK209 := n0_; have BK210 := n1_; have HB := n2_; clear n0_ n1_ n2_; (try clear hb); (try clear hb2); (try clear hk); (try clear hi); have hcz15_0 : w14.cell? ⟨gb209, 0, none⟩ = some (.slice A0_0 l0_0.length c0_0) := (blk_cell BK209.out 0).trans rfl; have hcz15_1 : w14.cell? ⟨gb209, 1, none⟩ = some (.slice A0_1 l0_1.length c0_1) := (blk_cell BK209.out 1).trans rfl; have hcz15_2 : w14.cell? ⟨gb209, 2, none⟩ = some (.int .i64 a0_2) := (blk_cell BK209.out 2).trans rfl; have hfz15_0 := blk_frozen BK209.out 0; have hfz15_1 := blk_frozen BK209.out 1; have hfz15_2 := blk_frozen BK209.out 2; have hcz16_0 : w14.cell? ⟨gb210, 0, none⟩ = some (.slice A1_0 l1_0.length c1_0) := (blk_cell BK210.out 0).trans rfl; have hcz16_1 : w14.cell? ⟨gb210, 1, none⟩ = some (.int .i64 a1_1) := (blk_cell BK210.out 1).trans rfl; have hcz16_2 : w14.cell? ⟨gb210, 2, none⟩ = some (.int .i64 a1_2) := (blk_cell BK210.out 2).trans rfl; have hcz16_3 : w14.cell? ⟨gb210, 3, none⟩ = some (.bool a1_3) := (blk_cell BK210.out 3).trans rfl; have hcz16_4 : w14.cell? ⟨gb210, 4, none⟩ = some (.int .i64 a1_4) := (blk_cell BK210.out 4).trans rfl; have hfz16_0 := blk_frozen BK210.out 0; have hfz16_1 := blk_frozen BK210.out 1; have hfz16_2 := blk_frozen BK210.out 2; have hfz16_3 := blk_frozen BK210.out 3; have hfz16_4 := blk_frozen BK210.out 4) | ((with_reducible refine gate_callee (f := 22) rfl ?_); refine goesL_ (some 26) rfl rfl Tryd.func22 (by kernel_rfl) rfl #[.agg #[.slice A0_0 l0_0.length c0_0, .slice A0_1 l0_1.length c0_1, .int .i64 a0_2], .slice A1_0 l1_0.length c1_0] rfl zM ?_; (with_reducible refine (lots_Cost.calls k _ _ l0_0 _ _ l0_1 a0_2 _ _ l1_0 t215 t216 _ ?side1 ?side2 ?side3 ?side4 ?side5 ?side6 ?side7 A5.out).mono ?_); (case side1 => exact GlobOK.below HG.out (zH2 HB.out GE209.out GE210.out)); (case side2 => exact zC HR0_0.out HB.out); (case side3 => exact HC0_0.out); (case side4 => exact zC HR0_1.out HB.out); (case side5 => exact HC0_1.out); (case side6 => exact zC HR1_0.out HB.out); (case side7 => exact HC1_0.out); rintro e w17 ⟨rfl, hb⟩; refine ⟨_, rfl, ?_⟩; have n0_ := zBB BK209 hb; have n1_ := zBB BK210 hb; have n2_ := Aside0.mk (below_step (zH2 HB.out GE209.out GE210.out) hb); clear BK209; clear BK210; clear HB; have BK209 := n0_; have BK210 := n1_; have HB := n2_; clear n0_ n1_ n2_; (try clear hb); (try clear hb2); (try clear hk); (try clear hi)))
  (try simp only [Act.put, zq1, zq2, zq3])
  go_cut [29] (fun v29 wc => ∃ (kq : Nat) (x29_5 : Bool), v29 = .bool x29_5 ∧ Aside0 (cert_Check.j0 kq t213 x29_5 l0_0 l0_1 a0_2 = some r) ∧ Aside0 (kq ≤ k) ∧ Aside0 (wc.heap[gb209]? = some (.cells #[(.slice A0_0 l0_0.length c0_0), (.slice A0_1 l0_1.length c0_1), .int .i64 a0_2] 25 (0, 0))) ∧ Aside0 (wc.heap[gb210]? = some (.cells #[(.slice A1_0 l1_0.length c1_0), .int .i64 a1_1, .int .i64 a1_2, .bool a1_3, .int .i64 a1_4] 28 (0, 0))) ∧ Aside0 (Below w.heap.size w wc))
  case first =>
   have H := HC6.out; clear HC6; by_cases c18 : t214 = true
   ·
    subst c18; have H1 : (if t213 = a1_1 then (cert_Check.j0 k t213 (t215 != a1_2) l0_0 l0_1 a0_2) else (cert_Check.j0 k t213 true l0_0 l0_1 a0_2)) = some r := by rw [if_pos rfl] at H; exact H
    clear H; have H := H1; clear H1; by_cases c19 : t213 = a1_1
    ·
     rw [if_pos c19] at H; have c19b0 : (t213 == a1_1) = true := beq_iff_eq.mpr c19; have c19b1 : (t213 != a1_1) = false := bne_eq_false_iff_eq.mpr c19; clear c19
     (first | rw [c19b0] | (simp only [i64_w, i32_w]; rw [c19b0]) | skip)
     have H' := Aside0.mk H; clear H; have hnb20 := NB210_209.out; have hnc20 := NB209_210.out; have hcz21_0 : w17.cell? ⟨gb210, 0, none⟩ = some (.slice A1_0 l1_0.length c1_0) := (blk_cell BK210.out 0).trans rfl; have hcz21_1 : w17.cell? ⟨gb210, 1, none⟩ = some (.int .i64 a1_1) := (blk_cell BK210.out 1).trans rfl; have hcz21_2 : w17.cell? ⟨gb210, 2, none⟩ = some (.int .i64 a1_2) := (blk_cell BK210.out 2).trans rfl; have hcz21_3 : w17.cell? ⟨gb210, 3, none⟩ = some (.bool a1_3) := (blk_cell BK210.out 3).trans rfl; have hcz21_4 : w17.cell? ⟨gb210, 4, none⟩ = some (.int .i64 a1_4) := (blk_cell BK210.out 4).trans rfl; have hfz21_0 := blk_frozen BK210.out 0; have hfz21_1 := blk_frozen BK210.out 1; have hfz21_2 := blk_frozen BK210.out 2; have hfz21_3 := blk_frozen BK210.out 3; have hfz21_4 := blk_frozen BK210.out 4
     go_wp2
     go_meet
     case rel => exact ⟨_, ((t215 != a1_2)), zS, H', ⟨by first | omega | exact Nat.le_refl _⟩, ⟨zB BK209.out⟩, ⟨zB BK210.out⟩, ⟨zH2 HB.out GE209.out GE210.out⟩⟩
    ·
     rw [if_neg c19] at H; have c19b0 : (t213 == a1_1) = false := beq_eq_false_iff_ne.mpr c19; have c19b1 : (t213 != a1_1) = true := bne_iff_ne.mpr c19
     (first | rw [c19b0] | (simp only [i64_w, i32_w]; rw [c19b0]) | skip)
     have H' := Aside0.mk H; clear H; have hnb22 := NB210_209.out; have hnc22 := NB209_210.out; have hcz23_0 : w17.cell? ⟨gb210, 0, none⟩ = some (.slice A1_0 l1_0.length c1_0) := (blk_cell BK210.out 0).trans rfl; have hcz23_1 : w17.cell? ⟨gb210, 1, none⟩ = some (.int .i64 a1_1) := (blk_cell BK210.out 1).trans rfl; have hcz23_2 : w17.cell? ⟨gb210, 2, none⟩ = some (.int .i64 a1_2) := (blk_cell BK210.out 2).trans rfl; have hcz23_3 : w17.cell? ⟨gb210, 3, none⟩ = some (.bool a1_3) := (blk_cell BK210.out 3).trans rfl; have hcz23_4 : w17.cell? ⟨gb210, 4, none⟩ = some (.int .i64 a1_4) := (blk_cell BK210.out 4).trans rfl; have hfz23_0 := blk_frozen BK210.out 0; have hfz23_1 := blk_frozen BK210.out 1; have hfz23_2 := blk_frozen BK210.out 2; have hfz23_3 := blk_frozen BK210.out 3; have hfz23_4 := blk_frozen BK210.out 4
     go_wp2
     go_meet
     case rel => exact ⟨_, (true), zS, H', ⟨by first | omega | exact Nat.le_refl _⟩, ⟨zB BK209.out⟩, ⟨zB BK210.out⟩, ⟨zH2 HB.out GE209.out GE210.out⟩⟩
   ·
    replace c18 := Bool.eq_false_iff.mpr c18; subst c18; have H1 : (cert_Check.j0 k t213 true l0_0 l0_1 a0_2) = some r := by rw [if_neg (show ¬ (false = true) by decide)] at H; exact H
    clear H; have H := H1; clear H1; have H' := Aside0.mk H; clear H
    go_wp2
    go_meet
    case rel => exact ⟨_, (true), zS, H', ⟨by first | omega | exact Nat.le_refl _⟩, ⟨zB BK209.out⟩, ⟨zB BK210.out⟩, ⟨zH2 HB.out GE209.out GE210.out⟩⟩
  case rest =>
   clear HC6
   try clear c1
   try clear c2
   try clear p2
   try clear q2
   try clear c9
   try clear c10
   try clear c18
   try clear c19
   try clear c19b0
   try clear c19b1
   try clear c20
   try clear c21
   try clear q21
   try clear c22
   try clear hcz10_0
   try clear hcz10_1
   try clear hcz10_2
   try clear hcz12_0
   try clear hcz12_1
   try clear hcz12_2
   try clear hcz13_0
   try clear hcz13_1
   try clear hcz13_2
   try clear hcz13_3
   try clear hcz13_4
   try clear hcz15_0
   try clear hcz15_1
   try clear hcz15_2
   try clear hcz16_0
   try clear hcz16_1
   try clear hcz16_2
   try clear hcz16_3
   try clear hcz16_4
   try clear hcz21_0
   try clear hcz21_1
   try clear hcz21_2
   try clear hcz21_3
   try clear hcz21_4
   try clear hcz23_0
   try clear hcz23_1
   try clear hcz23_2
   try clear hcz23_3
   try clear hcz23_4
   try clear hfz10_0
   try clear hfz10_1
   try clear hfz10_2
   try clear hfz12_0
   try clear hfz12_1
   try clear hfz12_2
   try clear hfz13_0
   try clear hfz13_1
   try clear hfz13_2
   try clear hfz13_3
   try clear hfz13_4
   try clear hfz15_0
   try clear hfz15_1
   try clear hfz15_2
   try clear hfz16_0
   try clear hfz16_1
   try clear hfz16_2
   try clear hfz16_3
   try clear hfz16_4
   try clear hfz21_0
   try clear hfz21_1
   try clear hfz21_2
   try clear hfz21_3
   try clear hfz21_4
   try clear hfz23_0
   try clear hfz23_1
   try clear hfz23_2
   try clear hfz23_3
   try clear hfz23_4
   try clear q212
   obtain ⟨kq, x29_5, rfl, HA, HJ5, BK209, BK210, HB⟩ := hcut
   cases kq with
   | zero => exact absurd HA.out (by simp [cert_Check.j0])
   | succ kj5 =>
    have H := HA.out; clear HA; simp only [cert_Check.j0] at H; by_cases c24 : x29_5 = true
    ·
     subst c24; have H1 : (some (some 102)) = some r := by rw [if_pos rfl] at H; exact H
     clear H; have H := H1; clear H1; obtain rfl := Option.some.inj H; have hwg25 := GlobOK.at HG.out 102 0 (by simp [globTab]); have hxg25_0 := hwg25; replace hxg25_0 := (HB.out.cell (World.block_lt_of_cell? w _ hxg25_0)).trans hxg25_0; clear hwg25
     go_wp2
     go_ret
     exact ⟨zE, zH2 HB.out GE209.out GE210.out⟩
    ·
     replace c24 := Bool.eq_false_iff.mpr c24; subst c24; have H1 : (if t213 < a0_2 then (some (some 115)) else (some none)) = some r := by rw [if_neg (show ¬ (false = true) by decide)] at H; exact H
     clear H; have H := H1; clear H1; by_cases c26 : t213 < a0_2
     ·
      rw [if_pos c26] at H; have c26b0 : decide (t213 < a0_2) = true := decide_eq_true c26; clear c26; obtain rfl := Option.some.inj H; have hnb27 := NB209_210.out; have hnc27 := NB210_209.out; have hcz28_0 : wc.cell? ⟨gb209, 0, none⟩ = some (.slice A0_0 l0_0.length c0_0) := (blk_cell BK209.out 0).trans rfl; have hcz28_1 : wc.cell? ⟨gb209, 1, none⟩ = some (.slice A0_1 l0_1.length c0_1) := (blk_cell BK209.out 1).trans rfl; have hcz28_2 : wc.cell? ⟨gb209, 2, none⟩ = some (.int .i64 a0_2) := (blk_cell BK209.out 2).trans rfl; have hfz28_0 := blk_frozen BK209.out 0; have hfz28_1 := blk_frozen BK209.out 1; have hfz28_2 := blk_frozen BK209.out 2; have hwg29 := GlobOK.at HG.out 115 1 (by simp [globTab]); have hxg29_0 := hwg29; replace hxg29_0 := (HB.out.cell (World.block_lt_of_cell? w _ hxg29_0)).trans hxg29_0; clear hwg29
      go_wp2
      go_ret
      exact ⟨zE, zH2 HB.out GE209.out GE210.out⟩
     ·
      rw [if_neg c26] at H; have c26b0 : decide (t213 < a0_2) = false := decide_eq_false c26; clear c26; obtain rfl := Option.some.inj H; have hnb30 := NB209_210.out; have hnc30 := NB210_209.out; have hcz31_0 : wc.cell? ⟨gb209, 0, none⟩ = some (.slice A0_0 l0_0.length c0_0) := (blk_cell BK209.out 0).trans rfl; have hcz31_1 : wc.cell? ⟨gb209, 1, none⟩ = some (.slice A0_1 l0_1.length c0_1) := (blk_cell BK209.out 1).trans rfl; have hcz31_2 : wc.cell? ⟨gb209, 2, none⟩ = some (.int .i64 a0_2) := (blk_cell BK209.out 2).trans rfl; have hfz31_0 := blk_frozen BK209.out 0; have hfz31_1 := blk_frozen BK209.out 1; have hfz31_2 := blk_frozen BK209.out 2
      go_wp2
      go_ret
      exact ⟨zE, zH2 HB.out GE209.out GE210.out⟩
 ·
  have H1 : (some (some q212)) = some r := by rw [if_neg (show ¬ (some q212).isNone = true by simp)] at H; exact H
  clear H; have H := H1; clear H1
  try simp only [errW_none, errW_some]
  obtain rfl := Option.some.inj H
  go_enter Tryd.func10, Tryd.ntmps10
  go_wp2_with (first | ((with_reducible refine gate_dst (N := 2) rfl ?_); refine box_event ?hg (N := 2) ?hd (cs := #[.slice A0_0 l0_0.length c0_0, .slice A0_1 l0_1.length c0_1, .int .i64 a0_2]) (t := 25) ?hr ?_; (case hd => rfl); (case hg => rfl); (case hr => first | (go_simp; done) | (go_simp; rfl)); intro gb209 hg w32 hbox hb; have n0_ := Aside0.mk (below_step (zH HB.out) hb); have n1_ := Aside0.mk (hbox); have n2_ := Aside0.mk (zg hg (below_size (zH HB.out)) : w.heap.size ≤ gb209); have n3_ := Aside0.mk (zg hg (below_size (zH HB.out)) : w.heap.size ≤ gb209); clear HB; have HB := n0_; have BK209 := n1_; have GW209 := n2_; have GE209 := n3_; clear n0_ n1_ n2_ n3_; clear hb hbox hg) | ((with_reducible refine gate_dst (N := 3) rfl ?_); refine box_event ?hg (N := 3) ?hd (cs := #[.slice A1_0 l1_0.length c1_0, .int .i64 a1_1, .int .i64 a1_2, .bool a1_3, .int .i64 a1_4]) (t := 28) ?hr ?_; (case hd => rfl); (case hg => rfl); (case hr => first | (go_simp; done) | (go_simp; rfl)); intro gb210 hg w33 hbox hb; have n0_ := zBB BK209 hb; have n1_ := Aside0.mk (below_step (zH1 HB.out GE209.out) hb); have n2_ := Aside0.mk (hbox); have n3_ := Aside0.mk (zg hg (below_size (zH1 HB.out GE209.out)) : w.heap.size ≤ gb210); have n4_ := Aside0.mk (zg hg (below_size (zH1 HB.out GE209.out)) : w.heap.size ≤ gb210); have n5_ := Aside0.mk (zN hg BK209 : gb209 ≠ gb210); have n6_ := Aside0.mk (zO hg BK209 : gb210 ≠ gb209); clear BK209; clear HB; have BK209 := n0_; have HB := n1_; have BK210 := n2_; have GW210 := n3_; have GE210 := n4_; have NB209_210 := n5_; have NB210_209 := n6_; clear n0_ n1_ n2_ n3_ n4_ n5_ n6_; clear hb hbox hg; have hnb34 := NB209_210.out; have hnc34 := NB210_209.out; have hcz35_0 : w33.cell? ⟨gb209, 0, none⟩ = some (.slice A0_0 l0_0.length c0_0) := (blk_cell BK209.out 0).trans rfl; have hcz35_1 : w33.cell? ⟨gb209, 1, none⟩ = some (.slice A0_1 l0_1.length c0_1) := (blk_cell BK209.out 1).trans rfl; have hcz35_2 : w33.cell? ⟨gb209, 2, none⟩ = some (.int .i64 a0_2) := (blk_cell BK209.out 2).trans rfl; have hfz35_0 := blk_frozen BK209.out 0; have hfz35_1 := blk_frozen BK209.out 1; have hfz35_2 := blk_frozen BK209.out 2) | ((with_reducible refine gate_callee (f := 20) rfl ?_); refine goesL_ (some 11) rfl rfl Tryd.func20 (by kernel_rfl) rfl #[.agg #[.slice A0_0 l0_0.length c0_0, .slice A0_1 l0_1.length c0_1, .int .i64 a0_2]] rfl zM ?_; (with_reducible refine (lots_Valid.calls _ _ l0_0 _ _ l0_1 a0_2 (some q212) _ ?side1 ?side2 ?side3 ?side4 ?side5 A3.out).mono ?_); (case side1 => exact GlobOK.below HG.out (zH2 HB.out GE209.out GE210.out)); (case side2 => exact zC HR0_0.out HB.out); (case side3 => exact HC0_0.out); (case side4 => exact zC HR0_1.out HB.out); (case side5 => exact HC0_1.out); rintro e w36 ⟨rfl, hb⟩; refine ⟨_, rfl, ?_⟩; have n0_ := zBB BK209 hb; have n1_ := zBB BK210 hb; have n2_ := Aside0.mk (below_step (zH2 HB.out GE209.out GE210.out) hb); clear BK209; clear BK210; clear HB; have BK209 := n0_; have BK210 := n1_; have HB := n2_; clear n0_ n1_ n2_; (try clear hb); (try clear hb2); (try clear hk); (try clear hi); (try simp only [errW_none, errW_some])))
  go_ret
  exact ⟨zE, zH2 HB.out GE209.out GE210.out⟩

end Go.Proofs.YteooecifecaikaaDoor.ECertSays
