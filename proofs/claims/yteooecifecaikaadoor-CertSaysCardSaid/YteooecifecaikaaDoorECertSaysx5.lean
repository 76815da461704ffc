/- The functions that the law comes to, as plain functions, and for each a proof that the Go code comes to just these answers. Written by a program of this claim. Conditions: each theorem bears its own. -/
import Derived.Test.YteooecifecaikaaDoorECertSaysx0
import Derived.Test.YteooecifecaikaaDoorECertSaysx4
namespace Go.Proofs.YteooecifecaikaaDoor.ECertSays
open Go.RowKit Go.Proofs.YteooecifecaikaaDoorW.PrintWords Go.Proofs.YteooecifecaikaaDoorW.PrintLast Go.Proofs.YteooecifecaikaaDoorW.PrintMore Go.Proofs.YteooecifecaikaaDoorW.PrintOpen
attribute [local go_sem] max2_int min2_int max_two min_two max_three min_three max_four min_four   -- for this text's walks alone
set_option linter.unusedVariables false
set_option linter.unusedSimpArgs false

/-! ### pledgeref18_right: function 17 -/
mutual
def pledgeref18_right.j0 : Nat → List Int → Bool → List (S47) → List Int → Int → Option (Bool)
 | 0, _, _, _, _, _ => none
 | k + 1, x1, x16, x163000, x163001, x163002 => if x16 = true then (some false) else (pledgeref18_right.l0 k x1 0 x163000 x163001 x163002)
def pledgeref18_right.l0 : Nat → List Int → Int → List (S47) → List Int → Int → Option (Bool)
 | 0, _, _, _, _, _ => none
 | k + 1, x1, x5, x163000, x163001, x163002 => if x5 < (x1.length : Int) then (if 0 ≤ x5 then (if (rd x1 x5) < 0 then (some false) else (if x5 < (x163000.length : Int) then (if (rd x1 x5) > ((rd_T47 x163000 x5).f0) then (some false) else (pledgeref18_right.l0 k x1 (wrap64 (x5 + 1)) x163000 x163001 x163002)) else (none))) else (none)) else (some true)
end
def pledgeref18_right.f (k : Nat) (l0_0 : List (S47)) (l0_1 : List Int) (a0_2 : Int) (l1 : List Int) : Option (Bool) := (pledgeref18_Valid.f k l0_0 l0_1 a0_2).bind fun t163 => (if t163 = 0 then (pledgeref18_right.j0 k l1 ((l1.length : Int) != (l0_0.length : Int)) l0_0 l0_1 a0_2) else (pledgeref18_right.j0 k l1 true l0_0 l0_1 a0_2))
theorem pledgeref18_right.mono_l : ∀ k, (∀ y0 y1 y2 y3 y4, LeO (pledgeref18_right.j0 k y0 y1 y2 y3 y4) (pledgeref18_right.j0 (k + 1) y0 y1 y2 y3 y4)) ∧ (∀ y0 y1 y2 y3 y4, LeO (pledgeref18_right.l0 k y0 y1 y2 y3 y4) (pledgeref18_right.l0 (k + 1) y0 y1 y2 y3 y4))
 | 0 => ⟨fun _ _ _ _ _ r h => by simp [pledgeref18_right.j0] at h, fun _ _ _ _ _ r h => by simp [pledgeref18_right.l0] at h⟩
 | k + 1 => by
  obtain ⟨ih0, ih1⟩ := pledgeref18_right.mono_l k; refine ⟨?_, ?_⟩
  ·
   intro y0 y1 y2 y3 y4; unfold pledgeref18_right.j0
   repeat' first
   | (with_reducible exact ih0 _ _ _ _ _)
   | (with_reducible exact ih1 _ _ _ _ _)
   | (with_reducible exact pledgeref18_Valid.mono _ _ _ _)
   | (with_reducible exact LeO.refl _)
   | (with_reducible exact LeO.none _)
   | (with_reducible refine LeO.ite ?_ ?_)
   | (with_reducible refine LeO.bind ?_ (fun _ => ?_))
   | exact ih0 _ _ _ _ _
   | exact ih1 _ _ _ _ _
   | exact pledgeref18_Valid.mono _ _ _ _
   | exact LeO.none _
   | refine LeO.ite ?_ ?_
   | refine LeO.bind ?_ (fun _ => ?_)
  ·
   intro y0 y1 y2 y3 y4; unfold pledgeref18_right.l0
   repeat' first
   | (with_reducible exact ih0 _ _ _ _ _)
   | (with_reducible exact ih1 _ _ _ _ _)
   | (with_reducible exact pledgeref18_Valid.mono _ _ _ _)
   | (with_reducible exact LeO.refl _)
   | (with_reducible exact LeO.none _)
   | (with_reducible refine LeO.ite ?_ ?_)
   | (with_reducible refine LeO.bind ?_ (fun _ => ?_))
   | exact ih0 _ _ _ _ _
   | exact ih1 _ _ _ _ _
   | exact pledgeref18_Valid.mono _ _ _ _
   | exact LeO.none _
   | refine LeO.ite ?_ ?_
   | refine LeO.bind ?_ (fun _ => ?_)
theorem pledgeref18_right.mono : ∀ a0 a1 a2 a3 k, LeO (pledgeref18_right.f k a0 a1 a2 a3) (pledgeref18_right.f (k + 1) a0 a1 a2 a3) := by
 intro a0 a1 a2 a3 k; obtain ⟨ih0, ih1⟩ := pledgeref18_right.mono_l k; unfold pledgeref18_right.f
 repeat' first
   | (with_reducible exact ih0 _ _ _ _ _)
   | (with_reducible exact ih1 _ _ _ _ _)
   | (with_reducible exact pledgeref18_Valid.mono _ _ _ _)
   | (with_reducible exact LeO.refl _)
   | (with_reducible exact LeO.none _)
   | (with_reducible refine LeO.ite ?_ ?_)
   | (with_reducible refine LeO.bind ?_ (fun _ => ?_))
   | exact ih0 _ _ _ _ _
   | exact ih1 _ _ _ _ _
   | exact pledgeref18_Valid.mono _ _ _ _
   | exact LeO.none _
   | refine LeO.ite ?_ ?_
   | refine LeO.bind ?_ (fun _ => ?_)
set_option maxHeartbeats 8000000 in
set_option maxRecDepth 100000 in
theorem pledgeref18_right.calls [Inhabited (Int → Addr)] (k : Nat) (A0_0 : Option Addr) (c0_0 : Nat) (l0_0 : List (S47)) (A0_1 : Option Addr) (c0_1 : Nat) (l0_1 : List Int) (a0_2 : Int) (A1 : Option Addr) (c1 : Nat) (l1 : List Int) (r : Bool) (w : World) (hr0_0 : Kd.C k47 w A0_0 l0_0.length l0_0) (hc0_0 : l0_0.length ≤ c0_0) (hr0_1 : Kd.C (Kd.int .i64) w A0_1 l0_1.length l0_1) (hc0_1 : l0_1.length ≤ c0_1) (hr1 : Kd.C (Kd.int .i64) w A1 l1.length l1) (hc1 : l1.length ≤ c1) (h : pledgeref18_right.f k l0_0 l0_1 a0_2 l1 = some r) :
  Calls Tryd.prog 17 #[.agg #[.slice A0_0 l0_0.length c0_0, .slice A0_1 l0_1.length c0_1, .int .i64 a0_2], .slice A1 l1.length c1] w fun e w' => e = .returned (.bool r) ∧ Below w.heap.size w w' := by
 have hu30 := Tryd.underlying30; have HR0_0 := Aside0.mk hr0_0; have HC0_0 := Aside0.mk hc0_0; clear hr0_0 hc0_0; have HR0_1 := Aside0.mk hr0_1; have HC0_1 := Aside0.mk hc0_1; clear hr0_1 hc0_1; have HR1 := Aside0.mk hr1; have HC1 := Aside0.mk hc1; clear hr1 hc1; have HB := Aside0.mk (Below.refl w.heap.size w); have H : ((pledgeref18_Valid.f k l0_0 l0_1 a0_2).bind fun t163 => (if t163 = 0 then (pledgeref18_right.j0 k l1 ((l1.length : Int) != (l0_0.length : Int)) l0_0 l0_1 a0_2) else (pledgeref18_right.j0 k l1 true l0_0 l0_1 a0_2))) = some r := h; clear h; have HC3 := Aside0.mk H; clear H
 go_enter Tryd.func17, Tryd.ntmps17
 go_upto_region 1 with (first | ((with_reducible refine gate_dst (N := 2) rfl ?_); (try (refine gate_guard (by rfl) ?_; dsimp only)); refine box_event ?hg (N := 2) ?hd (cs := #[.slice A0_0 l0_0.length c0_0, .slice A0_1 l0_1.length c0_1, .int .i64 a0_2]) (t := 30) ?hr ?_; (case hd => rfl); (case hg => rfl); (case hr => first | (go_simp; done) | (go_simp; rfl)); intro gb162 hg w4 hbox hb; have n0_ := Aside0.mk (below_step (zH HB.out) hb); have n1_ := Aside0.mk (hbox); have n2_ := Aside0.mk (zg hg (below_size (zH HB.out)) : w.heap.size ≤ gb162); have n3_ := Aside0.mk (zg hg (below_size (zH HB.out)) : w.heap.size ≤ gb162); clear HB; have HB := n0_; have BK162 := n1_; have GW162 := n2_; have GE162 := n3_; clear n0_ n1_ n2_ n3_; clear hb hbox hg))
 repeat (go_quiet (first | ((with_reducible refine gate_dst (N := 2) rfl ?_); (try (refine gate_guard (by rfl) ?_; dsimp only)); refine box_event ?hg (N := 2) ?hd (cs := #[.slice A0_0 l0_0.length c0_0, .slice A0_1 l0_1.length c0_1, .int .i64 a0_2]) (t := 30) ?hr ?_; (case hd => rfl); (case hg => rfl); (case hr => first | (go_simp; done) | (go_simp; rfl)); intro gb162 hg w4 hbox hb; have n0_ := Aside0.mk (below_step (zH HB.out) hb); have n1_ := Aside0.mk (hbox); have n2_ := Aside0.mk (zg hg (below_size (zH HB.out)) : w.heap.size ≤ gb162); have n3_ := Aside0.mk (zg hg (below_size (zH HB.out)) : w.heap.size ≤ gb162); clear HB; have HB := n0_; have BK162 := n1_; have GW162 := n2_; have GE162 := n3_; clear n0_ n1_ n2_ n3_; clear hb hbox hg)); go_upto_region 1 with (first | ((with_reducible refine gate_dst (N := 2) rfl ?_); (try (refine gate_guard (by rfl) ?_; dsimp only)); refine box_event ?hg (N := 2) ?hd (cs := #[.slice A0_0 l0_0.length c0_0, .slice A0_1 l0_1.length c0_1, .int .i64 a0_2]) (t := 30) ?hr ?_; (case hd => rfl); (case hg => rfl); (case hr => first | (go_simp; done) | (go_simp; rfl)); intro gb162 hg w4 hbox hb; have n0_ := Aside0.mk (below_step (zH HB.out) hb); have n1_ := Aside0.mk (hbox); have n2_ := Aside0.mk (zg hg (below_size (zH HB.out)) : w.heap.size ≤ gb162); have n3_ := Aside0.mk (zg hg (below_size (zH HB.out)) : w.heap.size ≤ gb162); clear HB; have HB := n0_; have BK162 := n1_; have GW162 := n2_; have GE162 := n3_; clear n0_ n1_ n2_ n3_; clear hb hbox hg)))
 (try simp only [Act.put, zq1, zq2, zq3])
 go_cut [16] (fun v16 wc => ∃ (kq : Nat) (x16_2 : Bool), v16 = .bool x16_2 ∧ Aside0 (pledgeref18_right.j0 kq l1 x16_2 l0_0 l0_1 a0_2 = some r) ∧ Aside0 (kq ≤ k) ∧ Aside0 (wc.heap[gb162]? = some (.cells #[(.slice A0_0 l0_0.length c0_0), (.slice A0_1 l0_1.length c0_1), .int .i64 a0_2] 30 (0, 0))) ∧ Aside0 (Below w.heap.size w wc))
 case first =>
  have H := HC3.out; clear HC3; replace H := Option.bind_eq_some_iff.mp H; obtain ⟨t163, A50, H⟩ := H; replace H : (if t163 = 0 then (pledgeref18_right.j0 k l1 ((l1.length : Int) != (l0_0.length : Int)) l0_0 l0_1 a0_2) else (pledgeref18_right.j0 k l1 true l0_0 l0_1 a0_2)) = some r := H; have A5 := Aside0.mk A50; clear A50; by_cases c6 : t163 = 0
  ·
   rw [if_pos c6] at H; have c6b0 : (t163 == 0) = true := beq_iff_eq.mpr c6; have c6b1 : (t163 != 0) = false := bne_eq_false_iff_eq.mpr c6; clear c6
   (first | rw [c6b0] | (simp only [i64_w, i32_w]; rw [c6b0]) | skip)
   have H' := Aside0.mk H; clear H; have hcz7_0 : w4.cell? ⟨gb162, 0, none⟩ = some (.slice A0_0 l0_0.length c0_0) := (blk_cell BK162.out 0).trans rfl; have hcz7_1 : w4.cell? ⟨gb162, 1, none⟩ = some (.slice A0_1 l0_1.length c0_1) := (blk_cell BK162.out 1).trans rfl; have hcz7_2 : w4.cell? ⟨gb162, 2, none⟩ = some (.int .i64 a0_2) := (blk_cell BK162.out 2).trans rfl; have hfz7_0 := blk_frozen BK162.out 0; have hfz7_1 := blk_frozen BK162.out 1; have hfz7_2 := blk_frozen BK162.out 2
   go_wp2_with (first | (go_at_call 6; (with_reducible refine (pledgeref18_Valid.calls k _ _ l0_0 _ _ l0_1 a0_2 t163 _ ?side1 ?side2 ?side3 ?side4 A5.out).mono ?_); (case side1 => exact zC HR0_0.out HB.out); (case side2 => exact HC0_0.out); (case side3 => exact zC HR0_1.out HB.out); (case side4 => exact HC0_1.out); rintro e w8 ⟨rfl, hb⟩; have n0_ := zBB BK162 hb; have n1_ := Aside0.mk (below_step (zH1 HB.out GE162.out) hb); clear BK162; clear HB; have BK162 := n0_; have HB := n1_; clear n0_ n1_; (try clear hb); (try clear hb2); (try clear hk); (try clear hi); have hcz9_0 : w8.cell? ⟨gb162, 0, none⟩ = some (.slice A0_0 l0_0.length c0_0) := (blk_cell BK162.out 0).trans rfl; have hcz9_1 : w8.cell? ⟨gb162, 1, none⟩ = some (.slice A0_1 l0_1.length c0_1) := (blk_cell BK162.out 1).trans rfl; have hcz9_2 : w8.cell? ⟨gb162, 2, none⟩ = some (.int .i64 a0_2) := (blk_cell BK162.out 2).trans rfl; have hfz9_0 := blk_frozen BK162.out 0; have hfz9_1 := blk_frozen BK162.out 1; have hfz9_2 := blk_frozen BK162.out 2))
   repeat (go_quiet (first | (go_at_call 6; (try simp only [i64_w, i32_w]); (with_reducible refine (pledgeref18_Valid.calls k _ _ l0_0 _ _ l0_1 a0_2 t163 _ ?side1 ?side2 ?side3 ?side4 A5.out).mono ?_); (case side1 => exact zC HR0_0.out HB.out); (case side2 => exact HC0_0.out); (case side3 => exact zC HR0_1.out HB.out); (case side4 => exact HC0_1.out); rintro e w8 ⟨rfl, hb⟩; have n0_ := zBB BK162 hb; have n1_ := Aside0.mk (below_step (zH1 HB.out GE162.out) hb); clear BK162; clear HB; have BK162 := n0_; have HB := n1_; clear n0_ n1_; (try clear hb); (try clear hb2); (try clear hk); (try clear hi); have hcz9_0 : w8.cell? ⟨gb162, 0, none⟩ = some (.slice A0_0 l0_0.length c0_0) := (blk_cell BK162.out 0).trans rfl; have hcz9_1 : w8.cell? ⟨gb162, 1, none⟩ = some (.slice A0_1 l0_1.length c0_1) := (blk_cell BK162.out 1).trans rfl; have hcz9_2 : w8.cell? ⟨gb162, 2, none⟩ = some (.int .i64 a0_2) := (blk_cell BK162.out 2).trans rfl; have hfz9_0 := blk_frozen BK162.out 0; have hfz9_1 := blk_frozen BK162.out 1; have hfz9_2 := blk_frozen BK162.out 2)); try go_wp2_with (first | (go_at_call 6; (try simp only [i64_w, i32_w]); (with_reducible refine (pledgeref18_Valid.calls k _ _ l0_0 _ _ l0_1 a0_2 t163 _ ?side1 ?side2 ?side3 ?side4 A5.out).mono ?_); (case side1 => exact zC HR0_0.out HB.out); (case side2 => exact HC0_0.out); (case side3 => exact zC HR0_1.out HB.out); (case side4 => exact HC0_1.out); rintro e w8 ⟨rfl, hb⟩; have n0_ := zBB BK162 hb; have n1_ := Aside0.mk (below_step (zH1 HB.out GE162.out) hb); clear BK162; clear HB; have BK162 := n0_; have HB := n1_; clear n0_ n1_; (try clear hb); (try clear hb2); (try clear hk); (try clear hi); have hcz9_0 : w8.cell? ⟨gb162, 0, none⟩ = some (.slice A0_0 l0_0.length c0_0) := (blk_cell BK162.out 0).trans rfl; have hcz9_1 : w8.cell? ⟨gb162, 1, none⟩ = some (.slice A0_1 l0_1.length c0_1) := (blk_cell BK162.out 1).trans rfl; have hcz9_2 : w8.cell? ⟨gb162, 2, none⟩ = some (.int .i64 a0_2) := (blk_cell BK162.out 2).trans rfl; have hfz9_0 := blk_frozen BK162.out 0; have hfz9_1 := blk_frozen BK162.out 1; have hfz9_2 := blk_frozen BK162.out 2)))
   go_meet
   case rel => exact ⟨_, (((l1.length : Int) != (l0_0.length : Int))), zS, H', ⟨by first | omega | exact Nat.le_refl _⟩, ⟨zB BK162.out⟩, ⟨zH1 HB.out GE162.out⟩⟩
  ·
   rw [if_neg c6] at H; have c6b0 : (t163 == 0) = false := beq_eq_false_iff_ne.mpr c6; have c6b1 : (t163 != 0) = true := bne_iff_ne.mpr c6
   (first | rw [c6b0] | (simp only [i64_w, i32_w]; rw [c6b0]) | skip)
   have H' := Aside0.mk H; clear H; have hcz10_0 : w4.cell? ⟨gb162, 0, none⟩ = some (.slice A0_0 l0_0.length c0_0) := (blk_cell BK162.out 0).trans rfl; have hcz10_1 : w4.cell? ⟨gb162, 1, none⟩ = some (.slice A0_1 l0_1.length c0_1) := (blk_cell BK162.out 1).trans rfl; have hcz10_2 : w4.cell? ⟨gb162, 2, none⟩ = some (.int .i64 a0_2) := (blk_cell BK162.out 2).trans rfl; have hfz10_0 := blk_frozen BK162.out 0; have hfz10_1 := blk_frozen BK162.out 1; have hfz10_2 := blk_frozen BK162.out 2
   go_wp2_with (first | (go_at_call 6; (with_reducible refine (pledgeref18_Valid.calls k _ _ l0_0 _ _ l0_1 a0_2 t163 _ ?side1 ?side2 ?side3 ?side4 A5.out).mono ?_); (case side1 => exact zC HR0_0.out HB.out); (case side2 => exact HC0_0.out); (case side3 => exact zC HR0_1.out HB.out); (case side4 => exact HC0_1.out); rintro e w11 ⟨rfl, hb⟩; have n0_ := zBB BK162 hb; have n1_ := Aside0.mk (below_step (zH1 HB.out GE162.out) hb); clear BK162; clear HB; have BK162 := n0_; have HB := n1_; clear n0_ n1_; (try clear hb); (try clear hb2); (try clear hk); (try clear hi)))
   repeat (go_quiet (first | (go_at_call 6; (try simp only [i64_w, i32_w]); (with_reducible refine (pledgeref18_Valid.calls k _ _ l0_0 _ _ l0_1 a0_2 t163 _ ?side1 ?side2 ?side3 ?side4 A5.out).mono ?_); (case side1 => exact zC HR0_0.out HB.out); (case side2 => exact HC0_0.out); (case side3 => exact zC HR0_1.out HB.out); (case side4 => exact HC0_1.out); rintro e w11 ⟨rfl, hb⟩; have n0_ := zBB BK162 hb; have n1_ := Aside0.mk (below_step (zH1 HB.out GE162.out) hb); clear BK162; clear HB; have BK162 := n0_; have HB := n1_; clear n0_ n1_; (try clear hb); (try clear hb2); (try clear hk); (try clear hi))); try go_wp2_with (first | (go_at_call 6; (try simp only [i64_w, i32_w]); (with_reducible refine (pledgeref18_Valid.calls k _ _ l0_0 _ _ l0_1 a0_2 t163 _ ?side1 ?side2 ?side3 ?side4 A5.out).mono ?_); (case side1 => exact zC HR0_0.out HB.out); (case side2 => exact HC0_0.out); (case side3 => exact zC HR0_1.out HB.out); (case side4 => exact HC0_1.out); rintro e w11 ⟨rfl, hb⟩; have n0_ := zBB BK162 hb; have n1_ := Aside0.mk (below_step (zH1 HB.out GE162.out) hb); clear BK162; clear HB; have BK162 := n0_; have HB := n1_; clear n0_ n1_; (try clear hb); (try clear hb2); (try clear hk); (try clear hi))))
   go_meet
   case rel => exact ⟨_, (true), zS, H', ⟨by first | omega | exact Nat.le_refl _⟩, ⟨zB BK162.out⟩, ⟨zH1 HB.out GE162.out⟩⟩
 case rest =>
  clear HC3
  try clear c1
  try clear p2
  try clear c6
  try clear c6b0
  try clear c6b1
  try clear hcz10_0
  try clear hcz10_1
  try clear hcz10_2
  try clear hcz7_0
  try clear hcz7_1
  try clear hcz7_2
  try clear hcz9_0
  try clear hcz9_1
  try clear hcz9_2
  try clear hfz10_0
  try clear hfz10_1
  try clear hfz10_2
  try clear hfz7_0
  try clear hfz7_1
  try clear hfz7_2
  try clear hfz9_0
  try clear hfz9_1
  try clear hfz9_2
  obtain ⟨kq, x16_2, rfl, HA, HJ2, BK162, HB⟩ := hcut
  cases kq with
  | zero => exact absurd HA.out (by simp [pledgeref18_right.j0])
  | succ kj2 =>
   have H := HA.out; clear HA; simp only [pledgeref18_right.j0] at H; by_cases c12 : x16_2 = true
   ·
    subst c12; have H1 : (some false) = some r := by rw [if_pos rfl] at H; exact H
    clear H; have H := H1; clear H1; obtain rfl := Option.some.inj H
    go_wp2
    repeat (go_quiet (fail); try go_wp2)
    go_ret
    exact ⟨zE, zH1 HB.out GE162.out⟩
   ·
    replace c12 := Bool.eq_false_iff.mpr c12; subst c12; have H1 : (pledgeref18_right.l0 kj2 l1 0 l0_0 l0_1 a0_2) = some r := by rw [if_neg (show ¬ (false = true) by decide)] at H; exact H
    clear H; have H := H1; clear H1; have H' := Aside0.mk H; clear H
    go_wp2
    repeat (go_quiet (fail); try go_wp2)
    go_loopg [5] kj2 (fun kq v5 w' => ∃ (x5_2 : Int), v5 = .int .i64 x5_2 ∧ Aside0 (pledgeref18_right.l0 kq l1 x5_2 l0_0 l0_1 a0_2 = some r) ∧ Aside0 (kq ≤ kj2) ∧ Aside0 (w'.heap[gb162]? = some (.cells #[(.slice A0_0 l0_0.length c0_0), (.slice A0_1 l0_1.length c0_1), .int .i64 a0_2] 30 (0, 0))) ∧ Aside0 (Below w.heap.size w w'))
    case atStart => exact ⟨(0), zS, H', ⟨Nat.le_refl _⟩, ⟨zB BK162.out⟩, ⟨zH1 HB.out GE162.out⟩⟩
    case round =>
     clear H'
     try clear c1
     try clear p2
     try clear c6
     try clear c6b0
     try clear c6b1
     try clear c12
     try clear hcz10_0
     try clear hcz10_1
     try clear hcz10_2
     try clear hcz7_0
     try clear hcz7_1
     try clear hcz7_2
     try clear hcz9_0
     try clear hcz9_1
     try clear hcz9_2
     try clear hfz10_0
     try clear hfz10_1
     try clear hfz10_2
     try clear hfz7_0
     try clear hfz7_1
     try clear hfz7_2
     try clear hfz9_0
     try clear hfz9_1
     try clear hfz9_2
     try clear p2
     obtain ⟨x5_2, rfl, HA, HK2, BK162, HB⟩ := hrel
     cases gk with
     | zero => exact absurd HA.out (by simp [pledgeref18_right.l0])
     | succ k2 =>
      have H := HA.out; clear HA; simp only [pledgeref18_right.l0] at H; by_cases c13 : x5_2 < (l1.length : Int)
      ·
       rw [if_pos c13] at H; have c13b0 : decide (x5_2 < (l1.length : Int)) = true := decide_eq_true c13; clear c13; by_cases c14 : 0 ≤ x5_2
       ·
        rw [if_pos c14] at H; have c14b0 : decide (0 ≤ x5_2) = true := decide_eq_true c14; clear c14; by_cases c15 : (rd l1 x5_2) < 0
        ·
         rw [if_pos c15] at H; have c15b0 : decide ((rd l1 x5_2) < 0) = true := decide_eq_true c15; clear c15; obtain rfl := Option.some.inj H; have p164 : 0 ≤ (x5_2 : Int) := of_decide_eq_true zA; have q164 : x5_2 < (l1.length : Int) := of_decide_eq_true zA; obtain ⟨ad164, e164, hx164_0⟩ := Kd.at_int HR1.out x5_2 p164 q164
         cases e164
         replace hx164_0 := (HB.out.cell (World.block_lt_of_cell? w _ hx164_0)).trans hx164_0; replace p164 := eq_true p164; replace q164 := eq_true q164
         go_wp2
         repeat (go_quiet (fail); try go_wp2)
         go_ret
         exact ⟨zE, zH1 HB.out GE162.out⟩
        ·
         rw [if_neg c15] at H; have c15b0 : decide ((rd l1 x5_2) < 0) = false := decide_eq_false c15; clear c15; by_cases c16 : x5_2 < (l0_0.length : Int)
         ·
          rw [if_pos c16] at H; have c16b0 : decide (x5_2 < (l0_0.length : Int)) = true := decide_eq_true c16; clear c16; by_cases c17 : (rd l1 x5_2) > ((rd_T47 l0_0 x5_2).f0)
          ·
           rw [if_pos c17] at H; have c17b0 : decide (((rd_T47 l0_0 x5_2).f0) < (rd l1 x5_2)) = true := decide_eq_true c17; clear c17; obtain rfl := Option.some.inj H; have p164 : 0 ≤ (x5_2 : Int) := of_decide_eq_true zA; have q164 : x5_2 < (l1.length : Int) := of_decide_eq_true zA; obtain ⟨ad164, e164, hx164_0⟩ := Kd.at_int HR1.out x5_2 p164 q164
           cases e164
           replace hx164_0 := (HB.out.cell (World.block_lt_of_cell? w _ hx164_0)).trans hx164_0; replace p164 := eq_true p164; replace q164 := eq_true q164; have p165 : 0 ≤ (x5_2 : Int) := of_decide_eq_true zA; have q165 : x5_2 < (l1.length : Int) := of_decide_eq_true zA; obtain ⟨ad165, e165, hx165_0⟩ := Kd.at_int HR1.out x5_2 p165 q165; obtain rfl : ad164 = ad165 := (by injection e165); replace hx165_0 := (HB.out.cell (World.block_lt_of_cell? w _ hx165_0)).trans hx165_0; replace p165 := eq_true p165; replace q165 := eq_true q165; have hcz18_0 : wr.cell? ⟨gb162, 0, none⟩ = some (.slice A0_0 l0_0.length c0_0) := (blk_cell BK162.out 0).trans rfl; have hcz18_1 : wr.cell? ⟨gb162, 1, none⟩ = some (.slice A0_1 l0_1.length c0_1) := (blk_cell BK162.out 1).trans rfl; have hcz18_2 : wr.cell? ⟨gb162, 2, none⟩ = some (.int .i64 a0_2) := (blk_cell BK162.out 2).trans rfl; have hfz18_0 := blk_frozen BK162.out 0; have hfz18_1 := blk_frozen BK162.out 1; have hfz18_2 := blk_frozen BK162.out 2; have p166 : 0 ≤ (x5_2 : Int) := of_decide_eq_true zA; have q166 : x5_2 < (l0_0.length : Int) := of_decide_eq_true zA; obtain ⟨ad166, e166, hx166_0, hx166_1, hx166_2, hx166_3⟩ := at_T47 HR0_0.out x5_2 p166 q166
           cases e166
           replace hx166_0 := (HB.out.cell (World.block_lt_of_cell? w _ hx166_0)).trans hx166_0; replace hx166_1 := (HB.out.cell (World.block_lt_of_cell? w _ hx166_1)).trans hx166_1; replace hx166_2 := (HB.out.cell (World.block_lt_of_cell? w _ hx166_2)).trans hx166_2; replace hx166_3 := (HB.out.cell (World.block_lt_of_cell? w _ hx166_3)).trans hx166_3; replace p166 := eq_true p166; replace q166 := eq_true q166
           go_wp2
           repeat (go_quiet (fail); try go_wp2)
           go_ret
           exact ⟨zE, zH1 HB.out GE162.out⟩
          ·
           rw [if_neg c17] at H; have c17b0 : decide (((rd_T47 l0_0 x5_2).f0) < (rd l1 x5_2)) = false := decide_eq_false c17; clear c17; have H' := Aside0.mk H; clear H; have p164 : 0 ≤ (x5_2 : Int) := of_decide_eq_true zA; have q164 : x5_2 < (l1.length : Int) := of_decide_eq_true zA; obtain ⟨ad164, e164, hx164_0⟩ := Kd.at_int HR1.out x5_2 p164 q164
           cases e164
           replace hx164_0 := (HB.out.cell (World.block_lt_of_cell? w _ hx164_0)).trans hx164_0; replace p164 := eq_true p164; replace q164 := eq_true q164; have p165 : 0 ≤ (x5_2 : Int) := of_decide_eq_true zA; have q165 : x5_2 < (l1.length : Int) := of_decide_eq_true zA; obtain ⟨ad165, e165, hx165_0⟩ := Kd.at_int HR1.out x5_2 p165 q165; obtain rfl : ad164 = ad165 := (by injection e165); replace hx165_0 := (HB.out.cell (World.block_lt_of_cell? w _ hx165_0)).trans hx165_0; replace p165 := eq_true p165; replace q165 := eq_true q165; have hcz19_0 : wr.cell? ⟨gb162, 0, none⟩ = some (.slice A0_0 l0_0.length c0_0) := (blk_cell BK162.out 0).trans rfl; have hcz19_1 : wr.cell? ⟨gb162, 1, none⟩ = some (.slice A0_1 l0_1.length c0_1) := (blk_cell BK162.out 1).trans rfl; have hcz19_2 : wr.cell? ⟨gb162, 2, none⟩ = some (.int .i64 a0_2) := (blk_cell BK162.out 2).trans rfl; have hfz19_0 := blk_frozen BK162.out 0; have hfz19_1 := blk_frozen BK162.out 1; have hfz19_2 := blk_frozen BK162.out 2; have p166 : 0 ≤ (x5_2 : Int) := of_decide_eq_true zA; have q166 : x5_2 < (l0_0.length : Int) := of_decide_eq_true zA; obtain ⟨ad166, e166, hx166_0, hx166_1, hx166_2, hx166_3⟩ := at_T47 HR0_0.out x5_2 p166 q166
           cases e166
           replace hx166_0 := (HB.out.cell (World.block_lt_of_cell? w _ hx166_0)).trans hx166_0; replace hx166_1 := (HB.out.cell (World.block_lt_of_cell? w _ hx166_1)).trans hx166_1; replace hx166_2 := (HB.out.cell (World.block_lt_of_cell? w _ hx166_2)).trans hx166_2; replace hx166_3 := (HB.out.cell (World.block_lt_of_cell? w _ hx166_3)).trans hx166_3; replace p166 := eq_true p166; replace q166 := eq_true q166
           go_wp2
           repeat (go_quiet (fail); try go_wp2)
           go_roundg k2
           case measure => have := HJ2.out; have := HK2.out; omega
           case rel => exact ⟨(wrap64 (x5_2 + 1)), zS, H', ⟨by have := HJ2.out; have := HK2.out; omega⟩, ⟨zB BK162.out⟩, ⟨zH1 HB.out GE162.out⟩⟩
         ·
          rw [if_neg c16] at H; exact absurd H (by simp)
       ·
        rw [if_neg c14] at H; exact absurd H (by simp)
      ·
       rw [if_neg c13] at H; have c13b0 : decide (x5_2 < (l1.length : Int)) = false := decide_eq_false c13; clear c13; obtain rfl := Option.some.inj H
       go_wp2
       repeat (go_quiet (fail); try go_wp2)
       go_ret
       exact ⟨zE, zH1 HB.out GE162.out⟩

/-! ### pledgeref18_Worth: function 7 -/
mutual
def pledgeref18_Worth.l0 : Nat → List Int → Int → Int → List (S47) → List Int → Int → Option (Int × Bool)
 | 0, _, _, _, _, _, _ => none
 | k + 1, x1, x6, x7, x168000, x168001, x168002 => if x7 < (x168001.length : Int) then (pledgeref18_Worth.l1 k x1 x6 x7 0 0 x168000 x168001 x168002) else (some (x6, true))
def pledgeref18_Worth.l1 : Nat → List Int → Int → Int → Int → Int → List (S47) → List Int → Int → Option (Int × Bool)
 | 0, _, _, _, _, _, _, _, _ => none
 | k + 1, x1, x6, x7, x8, x9, x168000, x168001, x168002 => if x9 < (x1.length : Int) then (if 0 ≤ x9 then (if x9 < (x168000.length : Int) then (if ((rd_T47 x168000 x9).f3) = x7 then (pledgeref18_Worth.l1 k x1 x6 x7 (wrap64 (x8 + (wrap64 ((rd x1 x9) * ((rd_T47 x168000 x9).f1))))) (wrap64 (x9 + 1)) x168000 x168001 x168002) else (pledgeref18_Worth.l1 k x1 x6 x7 x8 (wrap64 (x9 + 1)) x168000 x168001 x168002)) else (none)) else (none)) else (if 0 ≤ x7 then (if x7 < (x168001.length : Int) then (if (rd x168001 x7) > 0 then (if x8 > (rd x168001 x7) then (pledgeref18_Worth.l0 k x1 (wrap64 (x6 + (rd x168001 x7))) (wrap64 (x7 + 1)) x168000 x168001 x168002) else (pledgeref18_Worth.l0 k x1 (wrap64 (x6 + x8)) (wrap64 (x7 + 1)) x168000 x168001 x168002)) else (pledgeref18_Worth.l0 k x1 (wrap64 (x6 + x8)) (wrap64 (x7 + 1)) x168000 x168001 x168002)) else (none)) else (none))
end
def pledgeref18_Worth.f (k : Nat) (l0_0 : List (S47)) (l0_1 : List Int) (a0_2 : Int) (l1 : List Int) : Option (Int × Bool) := (pledgeref18_right.f k l0_0 l0_1 a0_2 l1).bind fun t168 => (if t168 = true then (pledgeref18_Worth.l0 k l1 0 0 l0_0 l0_1 a0_2) else (some (0, false)))
theorem pledgeref18_Worth.mono_l : ∀ k, (∀ y0 y1 y2 y3 y4 y5, LeO (pledgeref18_Worth.l0 k y0 y1 y2 y3 y4 y5) (pledgeref18_Worth.l0 (k + 1) y0 y1 y2 y3 y4 y5)) ∧ (∀ y0 y1 y2 y3 y4 y5 y6 y7, LeO (pledgeref18_Worth.l1 k y0 y1 y2 y3 y4 y5 y6 y7) (pledgeref18_Worth.l1 (k + 1) y0 y1 y2 y3 y4 y5 y6 y7))
 | 0 => ⟨fun _ _ _ _ _ _ r h => by simp [pledgeref18_Worth.l0] at h, fun _ _ _ _ _ _ _ _ r h => by simp [pledgeref18_Worth.l1] at h⟩
 | k + 1 => by
  obtain ⟨ih0, ih1⟩ := pledgeref18_Worth.mono_l k; refine ⟨?_, ?_⟩
  ·
   intro y0 y1 y2 y3 y4 y5; unfold pledgeref18_Worth.l0
   repeat' first
   | (with_reducible exact ih0 _ _ _ _ _ _)
   | (with_reducible exact ih1 _ _ _ _ _ _ _ _)
   | (with_reducible exact pledgeref18_right.mono _ _ _ _ _)
   | (with_reducible exact LeO.refl _)
   | (with_reducible exact LeO.none _)
   | (with_reducible refine LeO.ite ?_ ?_)
   | (with_reducible refine LeO.bind ?_ (fun _ => ?_))
   | exact ih0 _ _ _ _ _ _
   | exact ih1 _ _ _ _ _ _ _ _
   | exact pledgeref18_right.mono _ _ _ _ _
   | exact LeO.none _
   | refine LeO.ite ?_ ?_
   | refine LeO.bind ?_ (fun _ => ?_)
  ·
   intro y0 y1 y2 y3 y4 y5 y6 y7; unfold pledgeref18_Worth.l1
   repeat' first
   | (with_reducible exact ih0 _ _ _ _ _ _)
   | (with_reducible exact ih1 _ _ _ _ _ _ _ _)
   | (with_reducible exact pledgeref18_right.mono _ _ _ _ _)
   | (with_reducible exact LeO.refl _)
   | (with_reducible exact LeO.none _)
   | (with_reducible refine LeO.ite ?_ ?_)
   | (with_reducible refine LeO.bind ?_ (fun _ => ?_))
   | exact ih0 _ _ _ _ _ _
   | exact ih1 _ _ _ _ _ _ _ _
   | exact pledgeref18_right.mono _ _ _ _ _
   | exact LeO.none _
   | refine LeO.ite ?_ ?_
   | refine LeO.bind ?_ (fun _ => ?_)
theorem pledgeref18_Worth.mono : ∀ a0 a1 a2 a3 k, LeO (pledgeref18_Worth.f k a0 a1 a2 a3) (pledgeref18_Worth.f (k + 1) a0 a1 a2 a3) := by
 intro a0 a1 a2 a3 k; obtain ⟨ih0, ih1⟩ := pledgeref18_Worth.mono_l k; unfold pledgeref18_Worth.f
 repeat' first
   | (with_reducible exact ih0 _ _ _ _ _ _)
   | (with_reducible exact ih1 _ _ _ _ _ _ _ _)
   | (with_reducible exact pledgeref18_right.mono _ _ _ _ _)
   | (with_reducible exact LeO.refl _)
   | (with_reducible exact LeO.none _)
   | (with_reducible refine LeO.ite ?_ ?_)
   | (with_reducible refine LeO.bind ?_ (fun _ => ?_))
   | exact ih0 _ _ _ _ _ _
   | exact ih1 _ _ _ _ _ _ _ _
   | exact pledgeref18_right.mono _ _ _ _ _
   | exact LeO.none _
   | refine LeO.ite ?_ ?_
   | refine LeO.bind ?_ (fun _ => ?_)
set_option maxHeartbeats 8000000 in
set_option maxRecDepth 100000 in
theorem pledgeref18_Worth.calls [Inhabited (Int → Addr)] (k : Nat) (A0_0 : Option Addr) (c0_0 : Nat) (l0_0 : List (S47)) (A0_1 : Option Addr) (c0_1 : Nat) (l0_1 : List Int) (a0_2 : Int) (A1 : Option Addr) (c1 : Nat) (l1 : List Int) (r1 : Int) (r2 : Bool) (w : World) (hr0_0 : Kd.C k47 w A0_0 l0_0.length l0_0) (hc0_0 : l0_0.length ≤ c0_0) (hr0_1 : Kd.C (Kd.int .i64) w A0_1 l0_1.length l0_1) (hc0_1 : l0_1.length ≤ c0_1) (hr1 : Kd.C (Kd.int .i64) w A1 l1.length l1) (hc1 : l1.length ≤ c1) (h : pledgeref18_Worth.f k l0_0 l0_1 a0_2 l1 = some (r1, r2)) :
  Calls Tryd.prog 7 #[.agg #[.slice A0_0 l0_0.length c0_0, .slice A0_1 l0_1.length c0_1, .int .i64 a0_2], .slice A1 l1.length c1] w fun e w' => e = .returned (.tuple #[.int .i64 r1, .bool r2]) ∧ Below w.heap.size w w' := by
 have hu30 := Tryd.underlying30; have HR0_0 := Aside0.mk hr0_0; have HC0_0 := Aside0.mk hc0_0; clear hr0_0 hc0_0; have HR0_1 := Aside0.mk hr0_1; have HC0_1 := Aside0.mk hc0_1; clear hr0_1 hc0_1; have HR1 := Aside0.mk hr1; have HC1 := Aside0.mk hc1; clear hr1 hc1; have HB := Aside0.mk (Below.refl w.heap.size w); have H : ((pledgeref18_right.f k l0_0 l0_1 a0_2 l1).bind fun t168 => (if t168 = true then (pledgeref18_Worth.l0 k l1 0 0 l0_0 l0_1 a0_2) else (some (0, false)))) = some (r1, r2) := h; clear h; replace H := Option.bind_eq_some_iff.mp H; obtain ⟨t168, A30, H⟩ := H; replace H : (if t168 = true then (pledgeref18_Worth.l0 k l1 0 0 l0_0 l0_1 a0_2) else (some (0, false))) = some (r1, r2) := H; have A3 := Aside0.mk A30; clear A30; by_cases c4 : t168 = true
 ·
  subst c4; have H1 : (pledgeref18_Worth.l0 k l1 0 0 l0_0 l0_1 a0_2) = some (r1, r2) := by rw [if_pos rfl] at H; exact H
  clear H; have H := H1; clear H1; have H' := Aside0.mk H; clear H
  go_enter Tryd.func7, Tryd.ntmps7
  go_wp2_with (first | ((with_reducible refine gate_dst (N := 2) rfl ?_); refine box_event ?hg (N := 2) ?hd (cs := #[.slice A0_0 l0_0.length c0_0, .slice A0_1 l0_1.length c0_1, .int .i64 a0_2]) (t := 30) ?hr ?_; (case hd => rfl); (case hg => rfl); (case hr => first | (go_simp; done) | (go_simp; rfl)); intro gb167 hg w5 hbox hb; have n0_ := Aside0.mk (below_step (zH HB.out) hb); have n1_ := Aside0.mk (hbox); have n2_ := Aside0.mk (zg hg (below_size (zH HB.out)) : w.heap.size ≤ gb167); have n3_ := Aside0.mk (zg hg (below_size (zH HB.out)) : w.heap.size ≤ gb167); clear HB; have HB := n0_; have BK167 := n1_; have GW167 := n2_; have GE167 := n3_; clear n0_ n1_ n2_ n3_; clear hb hbox hg; have hcz6_0 : w5.cell? ⟨gb167, 0, none⟩ = some (.slice A0_0 l0_0.length c0_0) := (blk_cell BK167.out 0).trans rfl; have hcz6_1 : w5.cell? ⟨gb167, 1, none⟩ = some (.slice A0_1 l0_1.length c0_1) := (blk_cell BK167.out 1).trans rfl; have hcz6_2 : w5.cell? ⟨gb167, 2, none⟩ = some (.int .i64 a0_2) := (blk_cell BK167.out 2).trans rfl; have hfz6_0 := blk_frozen BK167.out 0; have hfz6_1 := blk_frozen BK167.out 1; have hfz6_2 := blk_frozen BK167.out 2) | (go_at_call 17; (with_reducible refine (pledgeref18_right.calls k _ _ l0_0 _ _ l0_1 a0_2 _ _ l1 true _ ?side1 ?side2 ?side3 ?side4 ?side5 ?side6 A3.out).mono ?_); (case side1 => exact zC HR0_0.out HB.out); (case side2 => exact HC0_0.out); (case side3 => exact zC HR0_1.out HB.out); (case side4 => exact HC0_1.out); (case side5 => exact zC HR1.out HB.out); (case side6 => exact HC1.out); rintro e w7 ⟨rfl, hb⟩; have n0_ := zBB BK167 hb; have n1_ := Aside0.mk (below_step (zH1 HB.out GE167.out) hb); clear BK167; clear HB; have BK167 := n0_; have HB := n1_; clear n0_ n1_; (try clear hb); (try clear hb2); (try clear hk); (try clear hi)))
  repeat (go_quiet (first | ((with_reducible refine gate_dst (N := 2) rfl ?_); refine box_event ?hg (N := 2) ?hd (cs := #[.slice A0_0 l0_0.length c0_0, .slice A0_1 l0_1.length c0_1, .int .i64 a0_2]) (t := 30) ?hr ?_; (case hd => rfl); (case hg => rfl); (case hr => first | (go_simp; done) | (go_simp; rfl)); intro gb167 hg w5 hbox hb; have n0_ := Aside0.mk (below_step (zH HB.out) hb); have n1_ := Aside0.mk (hbox); have n2_ := Aside0.mk (zg hg (below_size (zH HB.out)) : w.heap.size ≤ gb167); have n3_ := Aside0.mk (zg hg (below_size (zH HB.out)) : w.heap.size ≤ gb167); clear HB; have HB := n0_; have BK167 := n1_; have GW167 := n2_; have GE167 := n3_; clear n0_ n1_ n2_ n3_; clear hb hbox hg; have hcz6_0 : w5.cell? ⟨gb167, 0, none⟩ = some (.slice A0_0 l0_0.length c0_0) := (blk_cell BK167.out 0).trans rfl; have hcz6_1 : w5.cell? ⟨gb167, 1, none⟩ = some (.slice A0_1 l0_1.length c0_1) := (blk_cell BK167.out 1).trans rfl; have hcz6_2 : w5.cell? ⟨gb167, 2, none⟩ = some (.int .i64 a0_2) := (blk_cell BK167.out 2).trans rfl; have hfz6_0 := blk_frozen BK167.out 0; have hfz6_1 := blk_frozen BK167.out 1; have hfz6_2 := blk_frozen BK167.out 2) | (go_at_call 17; (try simp only [i64_w, i32_w]); (with_reducible refine (pledgeref18_right.calls k _ _ l0_0 _ _ l0_1 a0_2 _ _ l1 true _ ?side1 ?side2 ?side3 ?side4 ?side5 ?side6 A3.out).mono ?_); (case side1 => exact zC HR0_0.out HB.out); (case side2 => exact HC0_0.out); (case side3 => exact zC HR0_1.out HB.out); (case side4 => exact HC0_1.out); (case side5 => exact zC HR1.out HB.out); (case side6 => exact HC1.out); rintro e w7 ⟨rfl, hb⟩; have n0_ := zBB BK167 hb; have n1_ := Aside0.mk (below_step (zH1 HB.out GE167.out) hb); clear BK167; clear HB; have BK167 := n0_; have HB := n1_; clear n0_ n1_; (try clear hb); (try clear hb2); (try clear hk); (try clear hi))); try go_wp2_with (first | ((with_reducible refine gate_dst (N := 2) rfl ?_); refine box_event ?hg (N := 2) ?hd (cs := #[.slice A0_0 l0_0.length c0_0, .slice A0_1 l0_1.length c0_1, .int .i64 a0_2]) (t := 30) ?hr ?_; (case hd => rfl); (case hg => rfl); (case hr => first | (go_simp; done) | (go_simp; rfl)); intro gb167 hg w5 hbox hb; have n0_ := Aside0.mk (below_step (zH HB.out) hb); have n1_ := Aside0.mk (hbox); have n2_ := Aside0.mk (zg hg (below_size (zH HB.out)) : w.heap.size ≤ gb167); have n3_ := Aside0.mk (zg hg (below_size (zH HB.out)) : w.heap.size ≤ gb167); clear HB; have HB := n0_; have BK167 := n1_; have GW167 := n2_; have GE167 := n3_; clear n0_ n1_ n2_ n3_; clear hb hbox hg; have hcz6_0 : w5.cell? ⟨gb167, 0, none⟩ = some (.slice A0_0 l0_0.length c0_0) := (blk_cell BK167.out 0).trans rfl; have hcz6_1 : w5.cell? ⟨gb167, 1, none⟩ = some (.slice A0_1 l0_1.length c0_1) := (blk_cell BK167.out 1).trans rfl; have hcz6_2 : w5.cell? ⟨gb167, 2, none⟩ = some (.int .i64 a0_2) := (blk_cell BK167.out 2).trans rfl; have hfz6_0 := blk_frozen BK167.out 0; have hfz6_1 := blk_frozen BK167.out 1; have hfz6_2 := blk_frozen BK167.out 2) | (go_at_call 17; (try simp only [i64_w, i32_w]); (with_reducible refine (pledgeref18_right.calls k _ _ l0_0 _ _ l0_1 a0_2 _ _ l1 true _ ?side1 ?side2 ?side3 ?side4 ?side5 ?side6 A3.out).mono ?_); (case side1 => exact zC HR0_0.out HB.out); (case side2 => exact HC0_0.out); (case side3 => exact zC HR0_1.out HB.out); (case side4 => exact HC0_1.out); (case side5 => exact zC HR1.out HB.out); (case side6 => exact HC1.out); rintro e w7 ⟨rfl, hb⟩; have n0_ := zBB BK167 hb; have n1_ := Aside0.mk (below_step (zH1 HB.out GE167.out) hb); clear BK167; clear HB; have BK167 := n0_; have HB := n1_; clear n0_ n1_; (try clear hb); (try clear hb2); (try clear hk); (try clear hi))))
  go_loopg [6, 7] k (fun kq v6 v7 w' => ∃ (x6_1 : Int) (x7_1 : Int), v6 = .int .i64 x6_1 ∧ v7 = .int .i64 x7_1 ∧ Aside0 (pledgeref18_Worth.l0 kq l1 x6_1 x7_1 l0_0 l0_1 a0_2 = some (r1, r2)) ∧ Aside0 (kq ≤ k) ∧ Aside0 (w'.heap[gb167]? = some (.cells #[(.slice A0_0 l0_0.length c0_0), (.slice A0_1 l0_1.length c0_1), .int .i64 a0_2] 30 (0, 0))) ∧ Aside0 (Below w.heap.size w w'))
  case atStart => exact ⟨(0), (0), zS, zS, H', ⟨Nat.le_refl _⟩, ⟨zB BK167.out⟩, ⟨zH1 HB.out GE167.out⟩⟩
  case round =>
   clear H'
   try clear c1
   try clear p2
   try clear c4
   try clear c7
   try clear hcz6_0
   try clear hcz6_1
   try clear hcz6_2
   try clear hfz6_0
   try clear hfz6_1
   try clear hfz6_2
   obtain ⟨x6_1, x7_1, rfl, rfl, HA, HK1, BK167, HB⟩ := hrel
   cases gk with
   | zero => exact absurd HA.out (by simp [pledgeref18_Worth.l0])
   | succ k1 =>
    have H := HA.out; clear HA; simp only [pledgeref18_Worth.l0] at H; by_cases c8 : x7_1 < (l0_1.length : Int)
    ·
     rw [if_pos c8] at H; have c8b0 : decide (x7_1 < (l0_1.length : Int)) = true := decide_eq_true c8; clear c8; have H' := Aside0.mk H; clear H; have hcz9_0 : wr.cell? ⟨gb167, 0, none⟩ = some (.slice A0_0 l0_0.length c0_0) := (blk_cell BK167.out 0).trans rfl; have hcz9_1 : wr.cell? ⟨gb167, 1, none⟩ = some (.slice A0_1 l0_1.length c0_1) := (blk_cell BK167.out 1).trans rfl; have hcz9_2 : wr.cell? ⟨gb167, 2, none⟩ = some (.int .i64 a0_2) := (blk_cell BK167.out 2).trans rfl; have hfz9_0 := blk_frozen BK167.out 0; have hfz9_1 := blk_frozen BK167.out 1; have hfz9_2 := blk_frozen BK167.out 2
     go_wp2
     repeat (go_quiet (fail); try go_wp2)
     go_loopg [8, 9] k1 (fun kq v8 v9 w' => ∃ (x8_2 : Int) (x9_2 : Int), v8 = .int .i64 x8_2 ∧ v9 = .int .i64 x9_2 ∧ Aside0 (pledgeref18_Worth.l1 kq l1 x6_1 x7_1 x8_2 x9_2 l0_0 l0_1 a0_2 = some (r1, r2)) ∧ Aside0 (kq ≤ k1) ∧ Aside0 (w'.heap[gb167]? = some (.cells #[(.slice A0_0 l0_0.length c0_0), (.slice A0_1 l0_1.length c0_1), .int .i64 a0_2] 30 (0, 0))) ∧ Aside0 (Below w.heap.size w w'))
     case atStart => exact ⟨(0), (0), zS, zS, H', ⟨Nat.le_refl _⟩, ⟨zB BK167.out⟩, ⟨zH1 HB.out GE167.out⟩⟩
     case round =>
      clear H'
      try clear c1
      try clear p2
      try clear c4
      try clear c7
      try clear c8
      try clear c8b0
      try clear hcz6_0
      try clear hcz6_1
      try clear hcz6_2
      try clear hcz9_0
      try clear hcz9_1
      try clear hcz9_2
      try clear hfz6_0
      try clear hfz6_1
      try clear hfz6_2
      try clear hfz9_0
      try clear hfz9_1
      try clear hfz9_2
      try clear p2
      obtain ⟨x8_2, x9_2, rfl, rfl, HA, HK2, BK167, HB⟩ := hrel
      cases gk with
      | zero => exact absurd HA.out (by simp [pledgeref18_Worth.l1])
      | succ k2 =>
       have H := HA.out; clear HA; simp only [pledgeref18_Worth.l1] at H; by_cases c10 : x9_2 < (l1.length : Int)
       ·
        rw [if_pos c10] at H; have c10b0 : decide (x9_2 < (l1.length : Int)) = true := decide_eq_true c10; clear c10; by_cases c11 : 0 ≤ x9_2
        ·
         rw [if_pos c11] at H; have c11b0 : decide (0 ≤ x9_2) = true := decide_eq_true c11; clear c11; by_cases c12 : x9_2 < (l0_0.length : Int)
         ·
          rw [if_pos c12] at H; have c12b0 : decide (x9_2 < (l0_0.length : Int)) = true := decide_eq_true c12; clear c12; by_cases c13 : ((rd_T47 l0_0 x9_2).f3) = x7_1
          ·
           rw [if_pos c13] at H; have c13b0 : (((rd_T47 l0_0 x9_2).f3) == x7_1) = true := beq_iff_eq.mpr c13; have c13b1 : (((rd_T47 l0_0 x9_2).f3) != x7_1) = false := bne_eq_false_iff_eq.mpr c13; clear c13; have H' := Aside0.mk H; clear H; have hcz14_0 : wr.cell? ⟨gb167, 0, none⟩ = some (.slice A0_0 l0_0.length c0_0) := (blk_cell BK167.out 0).trans rfl; have hcz14_1 : wr.cell? ⟨gb167, 1, none⟩ = some (.slice A0_1 l0_1.length c0_1) := (blk_cell BK167.out 1).trans rfl; have hcz14_2 : wr.cell? ⟨gb167, 2, none⟩ = some (.int .i64 a0_2) := (blk_cell BK167.out 2).trans rfl; have hfz14_0 := blk_frozen BK167.out 0; have hfz14_1 := blk_frozen BK167.out 1; have hfz14_2 := blk_frozen BK167.out 2; have p169 : 0 ≤ (x9_2 : Int) := of_decide_eq_true zA; have q169 : x9_2 < (l0_0.length : Int) := of_decide_eq_true zA; obtain ⟨ad169, e169, hx169_0, hx169_1, hx169_2, hx169_3⟩ := at_T47 HR0_0.out x9_2 p169 q169
           cases e169
           replace hx169_0 := (HB.out.cell (World.block_lt_of_cell? w _ hx169_0)).trans hx169_0; replace hx169_1 := (HB.out.cell (World.block_lt_of_cell? w _ hx169_1)).trans hx169_1; replace hx169_2 := (HB.out.cell (World.block_lt_of_cell? w _ hx169_2)).trans hx169_2; replace hx169_3 := (HB.out.cell (World.block_lt_of_cell? w _ hx169_3)).trans hx169_3; replace p169 := eq_true p169; replace q169 := eq_true q169; have p170 : 0 ≤ (x9_2 : Int) := of_decide_eq_true zA; have q170 : x9_2 < (l1.length : Int) := of_decide_eq_true zA; obtain ⟨ad170, e170, hx170_0⟩ := Kd.at_int HR1.out x9_2 p170 q170
           cases e170
           replace hx170_0 := (HB.out.cell (World.block_lt_of_cell? w _ hx170_0)).trans hx170_0; replace p170 := eq_true p170; replace q170 := eq_true q170; have p171 : 0 ≤ (x9_2 : Int) := of_decide_eq_true zA; have q171 : x9_2 < (l0_0.length : Int) := of_decide_eq_true zA; obtain ⟨ad171, e171, hx171_0, hx171_1, hx171_2, hx171_3⟩ := at_T47 HR0_0.out x9_2 p171 q171; obtain rfl : ad169 = ad171 := (by injection e171); replace hx171_0 := (HB.out.cell (World.block_lt_of_cell? w _ hx171_0)).trans hx171_0; replace hx171_1 := (HB.out.cell (World.block_lt_of_cell? w _ hx171_1)).trans hx171_1; replace hx171_2 := (HB.out.cell (World.block_lt_of_cell? w _ hx171_2)).trans hx171_2; replace hx171_3 := (HB.out.cell (World.block_lt_of_cell? w _ hx171_3)).trans hx171_3; replace p171 := eq_true p171; replace q171 := eq_true q171
           go_wp2
           repeat (go_quiet (fail); try go_wp2)
           go_roundg k2
           case measure => have := HK1.out; have := HK2.out; omega
           case rel => exact ⟨(wrap64 (x8_2 + (wrap64 ((rd l1 x9_2) * ((rd_T47 l0_0 x9_2).f1))))), (wrap64 (x9_2 + 1)), zS, zS, H', ⟨by have := HK1.out; have := HK2.out; omega⟩, ⟨zB BK167.out⟩, ⟨zH1 HB.out GE167.out⟩⟩
          ·
           rw [if_neg c13] at H; have c13b0 : (((rd_T47 l0_0 x9_2).f3) == x7_1) = false := beq_eq_false_iff_ne.mpr c13; have c13b1 : (((rd_T47 l0_0 x9_2).f3) != x7_1) = true := bne_iff_ne.mpr c13; have H' := Aside0.mk H; clear H; have hcz15_0 : wr.cell? ⟨gb167, 0, none⟩ = some (.slice A0_0 l0_0.length c0_0) := (blk_cell BK167.out 0).trans rfl; have hcz15_1 : wr.cell? ⟨gb167, 1, none⟩ = some (.slice A0_1 l0_1.length c0_1) := (blk_cell BK167.out 1).trans rfl; have hcz15_2 : wr.cell? ⟨gb167, 2, none⟩ = some (.int .i64 a0_2) := (blk_cell BK167.out 2).trans rfl; have hfz15_0 := blk_frozen BK167.out 0; have hfz15_1 := blk_frozen BK167.out 1; have hfz15_2 := blk_frozen BK167.out 2; have p169 : 0 ≤ (x9_2 : Int) := of_decide_eq_true zA; have q169 : x9_2 < (l0_0.length : Int) := of_decide_eq_true zA; obtain ⟨ad169, e169, hx169_0, hx169_1, hx169_2, hx169_3⟩ := at_T47 HR0_0.out x9_2 p169 q169
           cases e169
           replace hx169_0 := (HB.out.cell (World.block_lt_of_cell? w _ hx169_0)).trans hx169_0; replace hx169_1 := (HB.out.cell (World.block_lt_of_cell? w _ hx169_1)).trans hx169_1; replace hx169_2 := (HB.out.cell (World.block_lt_of_cell? w _ hx169_2)).trans hx169_2; replace hx169_3 := (HB.out.cell (World.block_lt_of_cell? w _ hx169_3)).trans hx169_3; replace p169 := eq_true p169; replace q169 := eq_true q169
           go_wp2
           repeat (go_quiet (fail); try go_wp2)
           go_roundg k2
           case measure => have := HK1.out; have := HK2.out; omega
           case rel => exact ⟨(x8_2), (wrap64 (x9_2 + 1)), zS, zS, H', ⟨by have := HK1.out; have := HK2.out; omega⟩, ⟨zB BK167.out⟩, ⟨zH1 HB.out GE167.out⟩⟩
         ·
          rw [if_neg c12] at H; exact absurd H (by simp)
        ·
         rw [if_neg c11] at H; exact absurd H (by simp)
       ·
        rw [if_neg c10] at H; have c10b0 : decide (x9_2 < (l1.length : Int)) = false := decide_eq_false c10; clear c10; by_cases c16 : 0 ≤ x7_1
        ·
         rw [if_pos c16] at H; have c16b0 : decide (0 ≤ x7_1) = true := decide_eq_true c16; clear c16; by_cases c17 : x7_1 < (l0_1.length : Int)
         ·
          rw [if_pos c17] at H; have c17b0 : decide (x7_1 < (l0_1.length : Int)) = true := decide_eq_true c17; clear c17; by_cases c18 : (rd l0_1 x7_1) > 0
          ·
           rw [if_pos c18] at H; have c18b0 : decide (0 < (rd l0_1 x7_1)) = true := decide_eq_true c18; clear c18; by_cases c19 : x8_2 > (rd l0_1 x7_1)
           ·
            rw [if_pos c19] at H; have c19b0 : decide ((rd l0_1 x7_1) < x8_2) = true := decide_eq_true c19; clear c19; have H' := Aside0.mk H; clear H; have hcz20_0 : wr.cell? ⟨gb167, 0, none⟩ = some (.slice A0_0 l0_0.length c0_0) := (blk_cell BK167.out 0).trans rfl; have hcz20_1 : wr.cell? ⟨gb167, 1, none⟩ = some (.slice A0_1 l0_1.length c0_1) := (blk_cell BK167.out 1).trans rfl; have hcz20_2 : wr.cell? ⟨gb167, 2, none⟩ = some (.int .i64 a0_2) := (blk_cell BK167.out 2).trans rfl; have hfz20_0 := blk_frozen BK167.out 0; have hfz20_1 := blk_frozen BK167.out 1; have hfz20_2 := blk_frozen BK167.out 2; have p172 : 0 ≤ (x7_1 : Int) := of_decide_eq_true zA; have q172 : x7_1 < (l0_1.length : Int) := of_decide_eq_true zA; obtain ⟨ad172, e172, hx172_0⟩ := Kd.at_int HR0_1.out x7_1 p172 q172
            cases e172
            replace hx172_0 := (HB.out.cell (World.block_lt_of_cell? w _ hx172_0)).trans hx172_0; replace p172 := eq_true p172; replace q172 := eq_true q172; have p173 : 0 ≤ (x7_1 : Int) := of_decide_eq_true zA; have q173 : x7_1 < (l0_1.length : Int) := of_decide_eq_true zA; obtain ⟨ad173, e173, hx173_0⟩ := Kd.at_int HR0_1.out x7_1 p173 q173; obtain rfl : ad172 = ad173 := (by injection e173); replace hx173_0 := (HB.out.cell (World.block_lt_of_cell? w _ hx173_0)).trans hx173_0; replace p173 := eq_true p173; replace q173 := eq_true q173; have p174 : 0 ≤ (x7_1 : Int) := of_decide_eq_true zA; have q174 : x7_1 < (l0_1.length : Int) := of_decide_eq_true zA; obtain ⟨ad174, e174, hx174_0⟩ := Kd.at_int HR0_1.out x7_1 p174 q174; obtain rfl : ad172 = ad174 := (by injection e174); replace hx174_0 := (HB.out.cell (World.block_lt_of_cell? w _ hx174_0)).trans hx174_0; replace p174 := eq_true p174; replace q174 := eq_true q174
            go_wp2
            repeat (go_quiet (fail); try go_wp2)
            go_roundg k2
            case measure => have := HK1.out; have := HK2.out; omega
            case rel => exact ⟨(wrap64 (x6_1 + (rd l0_1 x7_1))), (wrap64 (x7_1 + 1)), zS, zS, H', ⟨by have := HK1.out; have := HK2.out; omega⟩, ⟨zB BK167.out⟩, ⟨zH1 HB.out GE167.out⟩⟩
           ·
            rw [if_neg c19] at H; have c19b0 : decide ((rd l0_1 x7_1) < x8_2) = false := decide_eq_false c19; clear c19; have H' := Aside0.mk H; clear H; have hcz21_0 : wr.cell? ⟨gb167, 0, none⟩ = some (.slice A0_0 l0_0.length c0_0) := (blk_cell BK167.out 0).trans rfl; have hcz21_1 : wr.cell? ⟨gb167, 1, none⟩ = some (.slice A0_1 l0_1.length c0_1) := (blk_cell BK167.out 1).trans rfl; have hcz21_2 : wr.cell? ⟨gb167, 2, none⟩ = some (.int .i64 a0_2) := (blk_cell BK167.out 2).trans rfl; have hfz21_0 := blk_frozen BK167.out 0; have hfz21_1 := blk_frozen BK167.out 1; have hfz21_2 := blk_frozen BK167.out 2; have p172 : 0 ≤ (x7_1 : Int) := of_decide_eq_true zA; have q172 : x7_1 < (l0_1.length : Int) := of_decide_eq_true zA; obtain ⟨ad172, e172, hx172_0⟩ := Kd.at_int HR0_1.out x7_1 p172 q172
            cases e172
            replace hx172_0 := (HB.out.cell (World.block_lt_of_cell? w _ hx172_0)).trans hx172_0; replace p172 := eq_true p172; replace q172 := eq_true q172; have p173 : 0 ≤ (x7_1 : Int) := of_decide_eq_true zA; have q173 : x7_1 < (l0_1.length : Int) := of_decide_eq_true zA; obtain ⟨ad173, e173, hx173_0⟩ := Kd.at_int HR0_1.out x7_1 p173 q173; obtain rfl : ad172 = ad173 := (by injection e173); replace hx173_0 := (HB.out.cell (World.block_lt_of_cell? w _ hx173_0)).trans hx173_0; replace p173 := eq_true p173; replace q173 := eq_true q173
            go_wp2
            repeat (go_quiet (fail); try go_wp2)
            go_roundg k2
            case measure => have := HK1.out; have := HK2.out; omega
            case rel => exact ⟨(wrap64 (x6_1 + x8_2)), (wrap64 (x7_1 + 1)), zS, zS, H', ⟨by have := HK1.out; have := HK2.out; omega⟩, ⟨zB BK167.out⟩, ⟨zH1 HB.out GE167.out⟩⟩
          ·
           rw [if_neg c18] at H; have c18b0 : decide (0 < (rd l0_1 x7_1)) = false := decide_eq_false c18; clear c18; have H' := Aside0.mk H; clear H; have hcz22_0 : wr.cell? ⟨gb167, 0, none⟩ = some (.slice A0_0 l0_0.length c0_0) := (blk_cell BK167.out 0).trans rfl; have hcz22_1 : wr.cell? ⟨gb167, 1, none⟩ = some (.slice A0_1 l0_1.length c0_1) := (blk_cell BK167.out 1).trans rfl; have hcz22_2 : wr.cell? ⟨gb167, 2, none⟩ = some (.int .i64 a0_2) := (blk_cell BK167.out 2).trans rfl; have hfz22_0 := blk_frozen BK167.out 0; have hfz22_1 := blk_frozen BK167.out 1; have hfz22_2 := blk_frozen BK167.out 2; have p172 : 0 ≤ (x7_1 : Int) := of_decide_eq_true zA; have q172 : x7_1 < (l0_1.length : Int) := of_decide_eq_true zA; obtain ⟨ad172, e172, hx172_0⟩ := Kd.at_int HR0_1.out x7_1 p172 q172
           cases e172
           replace hx172_0 := (HB.out.cell (World.block_lt_of_cell? w _ hx172_0)).trans hx172_0; replace p172 := eq_true p172; replace q172 := eq_true q172
           go_wp2
           repeat (go_quiet (fail); try go_wp2)
           go_roundg k2
           case measure => have := HK1.out; have := HK2.out; omega
           case rel => exact ⟨(wrap64 (x6_1 + x8_2)), (wrap64 (x7_1 + 1)), zS, zS, H', ⟨by have := HK1.out; have := HK2.out; omega⟩, ⟨zB BK167.out⟩, ⟨zH1 HB.out GE167.out⟩⟩
         ·
          rw [if_neg c17] at H; exact absurd H (by simp)
        ·
         rw [if_neg c16] at H; exact absurd H (by simp)
    ·
     rw [if_neg c8] at H; have c8b0 : decide (x7_1 < (l0_1.length : Int)) = false := decide_eq_false c8; clear c8; simp only [Option.some.injEq, Prod.mk.injEq] at H; obtain ⟨rfl, rfl⟩ := H; have hcz23_0 : wr.cell? ⟨gb167, 0, none⟩ = some (.slice A0_0 l0_0.length c0_0) := (blk_cell BK167.out 0).trans rfl; have hcz23_1 : wr.cell? ⟨gb167, 1, none⟩ = some (.slice A0_1 l0_1.length c0_1) := (blk_cell BK167.out 1).trans rfl; have hcz23_2 : wr.cell? ⟨gb167, 2, none⟩ = some (.int .i64 a0_2) := (blk_cell BK167.out 2).trans rfl; have hfz23_0 := blk_frozen BK167.out 0; have hfz23_1 := blk_frozen BK167.out 1; have hfz23_2 := blk_frozen BK167.out 2
     go_wp2
     repeat (go_quiet (fail); try go_wp2)
     go_ret2
     exact ⟨zE, zH1 HB.out GE167.out⟩
 ·
  replace c4 := Bool.eq_false_iff.mpr c4; subst c4; have H1 : (some (0, false)) = some (r1, r2) := by rw [if_neg (show ¬ (false = true) by decide)] at H; exact H
  clear H; have H := H1; clear H1; simp only [Option.some.injEq, Prod.mk.injEq] at H; obtain ⟨rfl, rfl⟩ := H
  go_enter Tryd.func7, Tryd.ntmps7
  go_wp2_with (first | ((with_reducible refine gate_dst (N := 2) rfl ?_); refine box_event ?hg (N := 2) ?hd (cs := #[.slice A0_0 l0_0.length c0_0, .slice A0_1 l0_1.length c0_1, .int .i64 a0_2]) (t := 30) ?hr ?_; (case hd => rfl); (case hg => rfl); (case hr => first | (go_simp; done) | (go_simp; rfl)); intro gb167 hg w24 hbox hb; have n0_ := Aside0.mk (below_step (zH HB.out) hb); have n1_ := Aside0.mk (hbox); have n2_ := Aside0.mk (zg hg (below_size (zH HB.out)) : w.heap.size ≤ gb167); have n3_ := Aside0.mk (zg hg (below_size (zH HB.out)) : w.heap.size ≤ gb167); clear HB; have HB := n0_; have BK167 := n1_; have GW167 := n2_; have GE167 := n3_; clear n0_ n1_ n2_ n3_; clear hb hbox hg; have hcz25_0 : w24.cell? ⟨gb167, 0, none⟩ = some (.slice A0_0 l0_0.length c0_0) := (blk_cell BK167.out 0).trans rfl; have hcz25_1 : w24.cell? ⟨gb167, 1, none⟩ = some (.slice A0_1 l0_1.length c0_1) := (blk_cell BK167.out 1).trans rfl; have hcz25_2 : w24.cell? ⟨gb167, 2, none⟩ = some (.int .i64 a0_2) := (blk_cell BK167.out 2).trans rfl; have hfz25_0 := blk_frozen BK167.out 0; have hfz25_1 := blk_frozen BK167.out 1; have hfz25_2 := blk_frozen BK167.out 2) | (go_at_call 17; (with_reducible refine (pledgeref18_right.calls k _ _ l0_0 _ _ l0_1 a0_2 _ _ l1 false _ ?side1 ?side2 ?side3 ?side4 ?side5 ?side6 A3.out).mono ?_); (case side1 => exact zC HR0_0.out HB.out); (case side2 => exact HC0_0.out); (case side3 => exact zC HR0_1.out HB.out); (case side4 => exact HC0_1.out); (case side5 => exact zC HR1.out HB.out); (case side6 => exact HC1.out); rintro e w26 ⟨rfl, hb⟩; have n0_ := zBB BK167 hb; have n1_ := Aside0.mk (below_step (zH1 HB.out GE167.out) hb); clear BK167; clear HB; have BK167 := n0_; have HB := n1_; clear n0_ n1_; (try clear hb); (try clear hb2); (try clear hk); (try clear hi)))
  repeat (go_quiet (first | ((with_reducible refine gate_dst (N := 2) rfl ?_); refine box_event ?hg (N := 2) ?hd (cs := #[.slice A0_0 l0_0.length c0_0, .slice A0_1 l0_1.length c0_1, .int .i64 a0_2]) (t := 30) ?hr ?_; (case hd => rfl); (case hg => rfl); (case hr => first | (go_simp; done) | (go_simp; rfl)); intro gb167 hg w24 hbox hb; have n0_ := Aside0.mk (below_step (zH HB.out) hb); have n1_ := Aside0.mk (hbox); have n2_ := Aside0.mk (zg hg (below_size (zH HB.out)) : w.heap.size ≤ gb167); have n3_ := Aside0.mk (zg hg (below_size (zH HB.out)) : w.heap.size ≤ gb167); clear HB; have HB := n0_; have BK167 := n1_; have GW167 := n2_; have GE167 := n3_; clear n0_ n1_ n2_ n3_; clear hb hbox hg; have hcz25_0 : w24.cell? ⟨gb167, 0, none⟩ = some (.slice A0_0 l0_0.length c0_0) := (blk_cell BK167.out 0).trans rfl; have hcz25_1 : w24.cell? ⟨gb167, 1, none⟩ = some (.slice A0_1 l0_1.length c0_1) := (blk_cell BK167.out 1).trans rfl; have hcz25_2 : w24.cell? ⟨gb167, 2, none⟩ = some (.int .i64 a0_2) := (blk_cell BK167.out 2).trans rfl; have hfz25_0 := blk_frozen BK167.out 0; have hfz25_1 := blk_frozen BK167.out 1; have hfz25_2 := blk_frozen BK167.out 2) | (go_at_call 17; (try simp only [i64_w, i32_w]); (with_reducible refine (pledgeref18_right.calls k _ _ l0_0 _ _ l0_1 a0_2 _ _ l1 false _ ?side1 ?side2 ?side3 ?side4 ?side5 ?side6 A3.out).mono ?_); (case side1 => exact zC HR0_0.out HB.out); (case side2 => exact HC0_0.out); (case side3 => exact zC HR0_1.out HB.out); (case side4 => exact HC0_1.out); (case side5 => exact zC HR1.out HB.out); (case side6 => exact HC1.out); rintro e w26 ⟨rfl, hb⟩; have n0_ := zBB BK167 hb; have n1_ := Aside0.mk (below_step (zH1 HB.out GE167.out) hb); clear BK167; clear HB; have BK167 := n0_; have HB := n1_; clear n0_ n1_; (try clear hb); (try clear hb2); (try clear hk); (try clear hi))); try go_wp2_with (first | ((with_reducible refine gate_dst (N := 2) rfl ?_); refine box_event ?hg (N := 2) ?hd (cs := #[.slice A0_0 l0_0.length c0_0, .slice A0_1 l0_1.length c0_1, .int .i64 a0_2]) (t := 30) ?hr ?_; (case hd => rfl); (case hg => rfl); (case hr => first | (go_simp; done) | (go_simp; rfl)); intro gb167 hg w24 hbox hb; have n0_ := Aside0.mk (below_step (zH HB.out) hb); have n1_ := Aside0.mk (hbox); have n2_ := Aside0.mk (zg hg (below_size (zH HB.out)) : w.heap.size ≤ gb167); have n3_ := Aside0.mk (zg hg (below_size (zH HB.out)) : w.heap.size ≤ gb167); clear HB; have HB := n0_; have BK167 := n1_; have GW167 := n2_; have GE167 := n3_; clear n0_ n1_ n2_ n3_; clear hb hbox hg; have hcz25_0 : w24.cell? ⟨gb167, 0, none⟩ = some (.slice A0_0 l0_0.length c0_0) := (blk_cell BK167.out 0).trans rfl; have hcz25_1 : w24.cell? ⟨gb167, 1, none⟩ = some (.slice A0_1 l0_1.length c0_1) := (blk_cell BK167.out 1).trans rfl; have hcz25_2 : w24.cell? ⟨gb167, 2, none⟩ = some (.int .i64 a0_2) := (blk_cell BK167.out 2).trans rfl; have hfz25_0 := blk_frozen BK167.out 0; have hfz25_1 := blk_frozen BK167.out 1; have hfz25_2 := blk_frozen BK167.out 2) | (go_at_call 17; (try simp only [i64_w, i32_w]); (with_reducible refine (pledgeref18_right.calls k _ _ l0_0 _ _ l0_1 a0_2 _ _ l1 false _ ?side1 ?side2 ?side3 ?side4 ?side5 ?side6 A3.out).mono ?_); (case side1 => exact zC HR0_0.out HB.out); (case side2 => exact HC0_0.out); (case side3 => exact zC HR0_1.out HB.out); (case side4 => exact HC0_1.out); (case side5 => exact zC HR1.out HB.out); (case side6 => exact HC1.out); rintro e w26 ⟨rfl, hb⟩; have n0_ := zBB BK167 hb; have n1_ := Aside0.mk (below_step (zH1 HB.out GE167.out) hb); clear BK167; clear HB; have BK167 := n0_; have HB := n1_; clear n0_ n1_; (try clear hb); (try clear hb2); (try clear hk); (try clear hi))))
  go_ret2
  exact ⟨zE, zH1 HB.out GE167.out⟩

/-! ### pledgeref18_Cost: function 8 -/
def pledgeref18_Cost.l0 : Nat → List Int → Int → Int → List (S47) → List Int → Int → Option (Int × Bool)
 | 0, _, _, _, _, _, _ => none
 | k + 1, x1, x6, x7, x176000, x176001, x176002 => if x7 < (x1.length : Int) then (if 0 ≤ x7 then (if x7 < (x176000.length : Int) then (pledgeref18_Cost.l0 k x1 (wrap64 (x6 + (wrap64 ((rd x1 x7) * ((rd_T47 x176000 x7).f2))))) (wrap64 (x7 + 1)) x176000 x176001 x176002) else (none)) else (none)) else (some (x6, true))
def pledgeref18_Cost.f (k : Nat) (l0_0 : List (S47)) (l0_1 : List Int) (a0_2 : Int) (l1 : List Int) : Option (Int × Bool) := (pledgeref18_right.f k l0_0 l0_1 a0_2 l1).bind fun t176 => (if t176 = true then (pledgeref18_Cost.l0 k l1 0 0 l0_0 l0_1 a0_2) else (some (0, false)))
theorem pledgeref18_Cost.mono_l : ∀ k, (∀ y0 y1 y2 y3 y4 y5, LeO (pledgeref18_Cost.l0 k y0 y1 y2 y3 y4 y5) (pledgeref18_Cost.l0 (k + 1) y0 y1 y2 y3 y4 y5))
 | 0 => fun _ _ _ _ _ _ r h => by simp [pledgeref18_Cost.l0] at h
 | k + 1 => by
  have ih0 := pledgeref18_Cost.mono_l k
  ·
   intro y0 y1 y2 y3 y4 y5; unfold pledgeref18_Cost.l0
   repeat' first
   | (with_reducible exact ih0 _ _ _ _ _ _)
   | (with_reducible exact pledgeref18_right.mono _ _ _ _ _)
   | (with_reducible exact LeO.refl _)
   | (with_reducible exact LeO.none _)
   | (with_reducible refine LeO.ite ?_ ?_)
   | (with_reducible refine LeO.bind ?_ (fun _ => ?_))
   | exact ih0 _ _ _ _ _ _
   | exact pledgeref18_right.mono _ _ _ _ _
   | exact LeO.none _
   | refine LeO.ite ?_ ?_
   | refine LeO.bind ?_ (fun _ => ?_)
theorem pledgeref18_Cost.mono : ∀ a0 a1 a2 a3 k, LeO (pledgeref18_Cost.f k a0 a1 a2 a3) (pledgeref18_Cost.f (k + 1) a0 a1 a2 a3) := by
 intro a0 a1 a2 a3 k; have ih0 := pledgeref18_Cost.mono_l k; unfold pledgeref18_Cost.f
 repeat' first
   | (with_reducible exact ih0 _ _ _ _ _ _)
   | (with_reducible exact pledgeref18_right.mono _ _ _ _ _)
   | (with_reducible exact LeO.refl _)
   | (with_reducible exact LeO.none _)
   | (with_reducible refine LeO.ite ?_ ?_)
   | (with_reducible refine LeO.bind ?_ (fun _ => ?_))
   | exact ih0 _ _ _ _ _ _
   | exact pledgeref18_right.mono _ _ _ _ _
   | exact LeO.none _
   | refine LeO.ite ?_ ?_
   | refine LeO.bind ?_ (fun _ => ?_)
set_option maxHeartbeats 8000000 in
set_option maxRecDepth 100000 in
theorem pledgeref18_Cost.calls [Inhabited (Int → Addr)] (k : Nat) (A0_0 : Option Addr) (c0_0 : Nat) (l0_0 : List (S47)) (A0_1 : Option Addr) (c0_1 : Nat) (l0_1 : List Int) (a0_2 : Int) (A1 : Option Addr) (c1 : Nat) (l1 : List Int) (r1 : Int) (r2 : Bool) (w : World) (hr0_0 : Kd.C k47 w A0_0 l0_0.length l0_0) (hc0_0 : l0_0.length ≤ c0_0) (hr0_1 : Kd.C (Kd.int .i64) w A0_1 l0_1.length l0_1) (hc0_1 : l0_1.length ≤ c0_1) (hr1 : Kd.C (Kd.int .i64) w A1 l1.length l1) (hc1 : l1.length ≤ c1) (h : pledgeref18_Cost.f k l0_0 l0_1 a0_2 l1 = some (r1, r2)) :
  Calls Tryd.prog 8 #[.agg #[.slice A0_0 l0_0.length c0_0, .slice A0_1 l0_1.length c0_1, .int .i64 a0_2], .slice A1 l1.length c1] w fun e w' => e = .returned (.tuple #[.int .i64 r1, .bool r2]) ∧ Below w.heap.size w w' := by
 have hu30 := Tryd.underlying30; have HR0_0 := Aside0.mk hr0_0; have HC0_0 := Aside0.mk hc0_0; clear hr0_0 hc0_0; have HR0_1 := Aside0.mk hr0_1; have HC0_1 := Aside0.mk hc0_1; clear hr0_1 hc0_1; have HR1 := Aside0.mk hr1; have HC1 := Aside0.mk hc1; clear hr1 hc1; have HB := Aside0.mk (Below.refl w.heap.size w); have H : ((pledgeref18_right.f k l0_0 l0_1 a0_2 l1).bind fun t176 => (if t176 = true then (pledgeref18_Cost.l0 k l1 0 0 l0_0 l0_1 a0_2) else (some (0, false)))) = some (r1, r2) := h; clear h; replace H := Option.bind_eq_some_iff.mp H; obtain ⟨t176, A30, H⟩ := H; replace H : (if t176 = true then (pledgeref18_Cost.l0 k l1 0 0 l0_0 l0_1 a0_2) else (some (0, false))) = some (r1, r2) := H; have A3 := Aside0.mk A30; clear A30; by_cases c4 : t176 = true
 ·
  subst c4; have H1 : (pledgeref18_Cost.l0 k l1 0 0 l0_0 l0_1 a0_2) = some (r1, r2) := by rw [if_pos rfl] at H; exact H
  clear H; have H := H1; clear H1; have H' := Aside0.mk H; clear H
  go_enter Tryd.func8, Tryd.ntmps8
  go_wp2_with (first | ((with_reducible refine gate_dst (N := 2) rfl ?_); refine box_event ?hg (N := 2) ?hd (cs := #[.slice A0_0 l0_0.length c0_0, .slice A0_1 l0_1.length c0_1, .int .i64 a0_2]) (t := 30) ?hr ?_; (case hd => rfl); (case hg => rfl); (case hr => first | (go_simp; done) | (go_simp; rfl)); intro gb175 hg w5 hbox hb; have n0_ := Aside0.mk (below_step (zH HB.out) hb); have n1_ := Aside0.mk (hbox); have n2_ := Aside0.mk (zg hg (below_size (zH HB.out)) : w.heap.size ≤ gb175); have n3_ := Aside0.mk (zg hg (below_size (zH HB.out)) : w.heap.size ≤ gb175); clear HB; have HB := n0_; have BK175 := n1_; have GW175 := n2_; have GE175 := n3_; clear n0_ n1_ n2_ n3_; clear hb hbox hg; have hcz6_0 : w5.cell? ⟨gb175, 0, none⟩ = some (.slice A0_0 l0_0.length c0_0) := (blk_cell BK175.out 0).trans rfl; have hcz6_1 : w5.cell? ⟨gb175, 1, none⟩ = some (.slice A0_1 l0_1.length c0_1) := (blk_cell BK175.out 1).trans rfl; have hcz6_2 : w5.cell? ⟨gb175, 2, none⟩ = some (.int .i64 a0_2) := (blk_cell BK175.out 2).trans rfl; have hfz6_0 := blk_frozen BK175.out 0; have hfz6_1 := blk_frozen BK175.out 1; have hfz6_2 := blk_frozen BK175.out 2) | (go_at_call 17; (with_reducible refine (pledgeref18_right.calls k _ _ l0_0 _ _ l0_1 a0_2 _ _ l1 true _ ?side1 ?side2 ?side3 ?side4 ?side5 ?side6 A3.out).mono ?_); (case side1 => exact zC HR0_0.out HB.out); (case side2 => exact HC0_0.out); (case side3 => exact zC HR0_1.out HB.out); (case side4 => exact HC0_1.out); (case side5 => exact zC HR1.out HB.out); (case side6 => exact HC1.out); rintro e w7 ⟨rfl, hb⟩; have n0_ := zBB BK175 hb; have n1_ := Aside0.mk (below_step (zH1 HB.out GE175.out) hb); clear BK175; clear HB; have BK175 := n0_; have HB := n1_; clear n0_ n1_; (try clear hb); (try clear hb2); (try clear hk); (try clear hi)))
  repeat (go_quiet (first | ((with_reducible refine gate_dst (N := 2) rfl ?_); refine box_event ?hg (N := 2) ?hd (cs := #[.slice A0_0 l0_0.length c0_0, .slice A0_1 l0_1.length c0_1, .int .i64 a0_2]) (t := 30) ?hr ?_; (case hd => rfl); (case hg => rfl); (case hr => first | (go_simp; done) | (go_simp; rfl)); intro gb175 hg w5 hbox hb; have n0_ := Aside0.mk (below_step (zH HB.out) hb); have n1_ := Aside0.mk (hbox); have n2_ := Aside0.mk (zg hg (below_size (zH HB.out)) : w.heap.size ≤ gb175); have n3_ := Aside0.mk (zg hg (below_size (zH HB.out)) : w.heap.size ≤ gb175); clear HB; have HB := n0_; have BK175 := n1_; have GW175 := n2_; have GE175 := n3_; clear n0_ n1_ n2_ n3_; clear hb hbox hg; have hcz6_0 : w5.cell? ⟨gb175, 0, none⟩ = some (.slice A0_0 l0_0.length c0_0) := (blk_cell BK175.out 0).trans rfl; have hcz6_1 : w5.cell? ⟨gb175, 1, none⟩ = some (.slice A0_1 l0_1.length c0_1) := (blk_cell BK175.out 1).trans rfl; have hcz6_2 : w5.cell? ⟨gb175, 2, none⟩ = some (.int .i64 a0_2) := (blk_cell BK175.out 2).trans rfl; have hfz6_0 := blk_frozen BK175.out 0; have hfz6_1 := blk_frozen BK175.out 1; have hfz6_2 := blk_frozen BK175.out 2) | (go_at_call 17; (try simp only [i64_w, i32_w]); (with_reducible refine (pledgeref18_right.calls k _ _ l0_0 _ _ l0_1 a0_2 _ _ l1 true _ ?side1 ?side2 ?side3 ?side4 ?side5 ?side6 A3.out).mono ?_); (case side1 => exact zC HR0_0.out HB.out); (case side2 => exact HC0_0.out); (case side3 => exact zC HR0_1.out HB.out); (case side4 => exact HC0_1.out); (case side5 => exact zC HR1.out HB.out); (case side6 => exact HC1.out); rintro e w7 ⟨rfl, hb⟩; have n0_ := zBB BK175 hb; have n1_ := Aside0.mk (below_step (zH1 HB.out GE175.out) hb); clear BK175; clear HB; have BK175 := n0_; have HB := n1_; clear n0_ n1_; (try clear hb); (try clear hb2); (try clear hk); (try clear hi))); try go_wp2_with (first | ((with_reducible refine gate_dst (N := 2) rfl ?_); refine box_event ?hg (N := 2) ?hd (cs := #[.slice A0_0 l0_0.length c0_0, .slice A0_1 l0_1.length c0_1, .int .i64 a0_2]) (t := 30) ?hr ?_; (case hd => rfl); (case hg => rfl); (case hr => first | (go_simp; done) | (go_simp; rfl)); intro gb175 hg w5 hbox hb; have n0_ := Aside0.mk (below_step (zH HB.out) hb); have n1_ := Aside0.mk (hbox); have n2_ := Aside0.mk (zg hg (below_size (zH HB.out)) : w.heap.size ≤ gb175); have n3_ := Aside0.mk (zg hg (below_size (zH HB.out)) : w.heap.size ≤ gb175); clear HB; have HB := n0_; have BK175 := n1_; have GW175 := n2_; have GE175 := n3_; clear n0_ n1_ n2_ n3_; clear hb hbox hg; have hcz6_0 : w5.cell? ⟨gb175, 0, none⟩ = some (.slice A0_0 l0_0.length c0_0) := (blk_cell BK175.out 0).trans rfl; have hcz6_1 : w5.cell? ⟨gb175, 1, none⟩ = some (.slice A0_1 l0_1.length c0_1) := (blk_cell BK175.out 1).trans rfl; have hcz6_2 : w5.cell? ⟨gb175, 2, none⟩ = some (.int .i64 a0_2) := (blk_cell BK175.out 2).trans rfl; have hfz6_0 := blk_frozen BK175.out 0; have hfz6_1 := blk_frozen BK175.out 1; have hfz6_2 := blk_frozen BK175.out 2) | (go_at_call 17; (try simp only [i64_w, i32_w]); (with_reducible refine (pledgeref18_right.calls k _ _ l0_0 _ _ l0_1 a0_2 _ _ l1 true _ ?side1 ?side2 ?side3 ?side4 ?side5 ?side6 A3.out).mono ?_); (case side1 => exact zC HR0_0.out HB.out); (case side2 => exact HC0_0.out); (case side3 => exact zC HR0_1.out HB.out); (case side4 => exact HC0_1.out); (case side5 => exact zC HR1.out HB.out); (case side6 => exact HC1.out); rintro e w7 ⟨rfl, hb⟩; have n0_ := zBB BK175 hb; have n1_ := Aside0.mk (below_step (zH1 HB.out GE175.out) hb); clear BK175; clear HB; have BK175 := n0_; have HB := n1_; clear n0_ n1_; (try clear hb); (try clear hb2); (try clear hk); (try clear hi))))
  go_loopg [6, 7] k (fun kq v6 v7 w' => ∃ (x6_1 : Int) (x7_1 : Int), v6 = .int .i64 x6_1 ∧ v7 = .int .i64 x7_1 ∧ Aside0 (pledgeref18_Cost.l0 kq l1 x6_1 x7_1 l0_0 l0_1 a0_2 = some (r1, r2)) ∧ Aside0 (kq ≤ k) ∧ Aside0 (w'.heap[gb175]? = some (.cells #[(.slice A0_0 l0_0.length c0_0), (.slice A0_1 l0_1.length c0_1), .int .i64 a0_2] 30 (0, 0))) ∧ Aside0 (Below w.heap.size w w'))
  case atStart => exact ⟨(0), (0), zS, zS, H', ⟨Nat.le_refl _⟩, ⟨zB BK175.out⟩, ⟨zH1 HB.out GE175.out⟩⟩
  case round =>
   clear H'
   try clear c1
   try clear p2
   try clear c4
   try clear hcz6_0
   try clear hcz6_1
   try clear hcz6_2
   try clear hfz6_0
   try clear hfz6_1
   try clear hfz6_2
   obtain ⟨x6_1, x7_1, rfl, rfl, HA, HK1, BK175, HB⟩ := hrel
   cases gk with
   | zero => exact absurd HA.out (by simp [pledgeref18_Cost.l0])
   | succ k1 =>
    have H := HA.out; clear HA; simp only [pledgeref18_Cost.l0] at H; by_cases c8 : x7_1 < (l1.length : Int)
    ·
     rw [if_pos c8] at H; have c8b0 : decide (x7_1 < (l1.length : Int)) = true := decide_eq_true c8; clear c8; by_cases c9 : 0 ≤ x7_1
     ·
      rw [if_pos c9] at H; have c9b0 : decide (0 ≤ x7_1) = true := decide_eq_true c9; clear c9; by_cases c10 : x7_1 < (l0_0.length : Int)
      ·
       rw [if_pos c10] at H; have c10b0 : decide (x7_1 < (l0_0.length : Int)) = true := decide_eq_true c10; clear c10; have H' := Aside0.mk H; clear H; have p177 : 0 ≤ (x7_1 : Int) := of_decide_eq_true zA; have q177 : x7_1 < (l1.length : Int) := of_decide_eq_true zA; obtain ⟨ad177, e177, hx177_0⟩ := Kd.at_int HR1.out x7_1 p177 q177
       cases e177
       replace hx177_0 := (HB.out.cell (World.block_lt_of_cell? w _ hx177_0)).trans hx177_0; replace p177 := eq_true p177; replace q177 := eq_true q177; have hcz11_0 : wr.cell? ⟨gb175, 0, none⟩ = some (.slice A0_0 l0_0.length c0_0) := (blk_cell BK175.out 0).trans rfl; have hcz11_1 : wr.cell? ⟨gb175, 1, none⟩ = some (.slice A0_1 l0_1.length c0_1) := (blk_cell BK175.out 1).trans rfl; have hcz11_2 : wr.cell? ⟨gb175, 2, none⟩ = some (.int .i64 a0_2) := (blk_cell BK175.out 2).trans rfl; have hfz11_0 := blk_frozen BK175.out 0; have hfz11_1 := blk_frozen BK175.out 1; have hfz11_2 := blk_frozen BK175.out 2; have p178 : 0 ≤ (x7_1 : Int) := of_decide_eq_true zA; have q178 : x7_1 < (l0_0.length : Int) := of_decide_eq_true zA; obtain ⟨ad178, e178, hx178_0, hx178_1, hx178_2, hx178_3⟩ := at_T47 HR0_0.out x7_1 p178 q178
       cases e178
       replace hx178_0 := (HB.out.cell (World.block_lt_of_cell? w _ hx178_0)).trans hx178_0; replace hx178_1 := (HB.out.cell (World.block_lt_of_cell? w _ hx178_1)).trans hx178_1; replace hx178_2 := (HB.out.cell (World.block_lt_of_cell? w _ hx178_2)).trans hx178_2; replace hx178_3 := (HB.out.cell (World.block_lt_of_cell? w _ hx178_3)).trans hx178_3; replace p178 := eq_true p178; replace q178 := eq_true q178
       go_wp2
       repeat (go_quiet (fail); try go_wp2)
       go_roundg k1
       case measure => have := HK1.out; omega
       case rel => exact ⟨(wrap64 (x6_1 + (wrap64 ((rd l1 x7_1) * ((rd_T47 l0_0 x7_1).f2))))), (wrap64 (x7_1 + 1)), zS, zS, H', ⟨by have := HK1.out; omega⟩, ⟨zB BK175.out⟩, ⟨zH1 HB.out GE175.out⟩⟩
      ·
       rw [if_neg c10] at H; exact absurd H (by simp)
     ·
      rw [if_neg c9] at H; exact absurd H (by simp)
    ·
     rw [if_neg c8] at H; have c8b0 : decide (x7_1 < (l1.length : Int)) = false := decide_eq_false c8; clear c8; simp only [Option.some.injEq, Prod.mk.injEq] at H; obtain ⟨rfl, rfl⟩ := H
     go_wp2
     repeat (go_quiet (fail); try go_wp2)
     go_ret2
     exact ⟨zE, zH1 HB.out GE175.out⟩
 ·
  replace c4 := Bool.eq_false_iff.mpr c4; subst c4; have H1 : (some (0, false)) = some (r1, r2) := by rw [if_neg (show ¬ (false = true) by decide)] at H; exact H
  clear H; have H := H1; clear H1; simp only [Option.some.injEq, Prod.mk.injEq] at H; obtain ⟨rfl, rfl⟩ := H
  go_enter Tryd.func8, Tryd.ntmps8
  go_wp2_with (first | ((with_reducible refine gate_dst (N := 2) rfl ?_); refine box_event ?hg (N := 2) ?hd (cs := #[.slice A0_0 l0_0.length c0_0, .slice A0_1 l0_1.length c0_1, .int .i64 a0_2]) (t := 30) ?hr ?_; (case hd => rfl); (case hg => rfl); (case hr => first | (go_simp; done) | (go_simp; rfl)); intro gb175 hg w12 hbox hb; have n0_ := Aside0.mk (below_step (zH HB.out) hb); have n1_ := Aside0.mk (hbox); have n2_ := Aside0.mk (zg hg (below_size (zH HB.out)) : w.heap.size ≤ gb175); have n3_ := Aside0.mk (zg hg (below_size (zH HB.out)) : w.heap.size ≤ gb175); clear HB; have HB := n0_; have BK175 := n1_; have GW175 := n2_; have GE175 := n3_; clear n0_ n1_ n2_ n3_; clear hb hbox hg; have hcz13_0 : w12.cell? ⟨gb175, 0, none⟩ = some (.slice A0_0 l0_0.length c0_0) := (blk_cell BK175.out 0).trans rfl; have hcz13_1 : w12.cell? ⟨gb175, 1, none⟩ = some (.slice A0_1 l0_1.length c0_1) := (blk_cell BK175.out 1).trans rfl; have hcz13_2 : w12.cell? ⟨gb175, 2, none⟩ = some (.int .i64 a0_2) := (blk_cell BK175.out 2).trans rfl; have hfz13_0 := blk_frozen BK175.out 0; have hfz13_1 := blk_frozen BK175.out 1; have hfz13_2 := blk_frozen BK175.out 2) | (go_at_call 17; (with_reducible refine (pledgeref18_right.calls k _ _ l0_0 _ _ l0_1 a0_2 _ _ l1 false _ ?side1 ?side2 ?side3 ?side4 ?side5 ?side6 A3.out).mono ?_); (case side1 => exact zC HR0_0.out HB.out); (case side2 => exact HC0_0.out); (case side3 => exact zC HR0_1.out HB.out); (case side4 => exact HC0_1.out); (case side5 => exact zC HR1.out HB.out); (case side6 => exact HC1.out); rintro e w14 ⟨rfl, hb⟩; have n0_ := zBB BK175 hb; have n1_ := Aside0.mk (below_step (zH1 HB.out GE175.out) hb); clear BK175; clear HB; have BK175 := n0_; have HB := n1_; clear n0_ n1_; (try clear hb); (try clear hb2); (try clear hk); (try clear hi)))
  repeat (go_quiet (first | ((with_reducible refine gate_dst (N := 2) rfl ?_); refine box_event ?hg (N := 2) ?hd (cs := #[.slice A0_0 l0_0.length c0_0, .slice A0_1 l0_1.length c0_1, .int .i64 a0_2]) (t := 30) ?hr ?_; (case hd => rfl); (case hg => rfl); (case hr => first | (go_simp; done) | (go_simp; rfl)); intro gb175 hg w12 hbox hb; have n0_ := Aside0.mk (below_step (zH HB.out) hb); have n1_ := Aside0.mk (hbox); have n2_ := Aside0.mk (zg hg (below_size (zH HB.out)) : w.heap.size ≤ gb175); have n3_ := Aside0.mk (zg hg (below_size (zH HB.out)) : w.heap.size ≤ gb175); clear HB; have HB := n0_; have BK175 := n1_; have GW175 := n2_; have GE175 := n3_; clear n0_ n1_ n2_ n3_; clear hb hbox hg; have hcz13_0 : w12.cell? ⟨gb175, 0, none⟩ = some (.slice A0_0 l0_0.length c0_0) := (blk_cell BK175.out 0).trans rfl; have hcz13_1 : w12.cell? ⟨gb175, 1, none⟩ = some (.slice A0_1 l0_1.length c0_1) := (blk_cell BK175.out 1).trans rfl; have hcz13_2 : w12.cell? ⟨gb175, 2, none⟩ = some (.int .i64 a0_2) := (blk_cell BK175.out 2).trans rfl; have hfz13_0 := blk_frozen BK175.out 0; have hfz13_1 := blk_frozen BK175.out 1; have hfz13_2 := blk_frozen BK175.out 2) | (go_at_call 17; (try simp only [i64_w, i32_w]); (with_reducible refine (pledgeref18_right.calls k _ _ l0_0 _ _ l0_1 a0_2 _ _ l1 false _ ?side1 ?side2 ?side3 ?side4 ?side5 ?side6 A3.out).mono ?_); (case side1 => exact zC HR0_0.out HB.out); (case side2 => exact HC0_0.out); (case side3 => exact zC HR0_1.out HB.out); (case side4 => exact HC0_1.out); (case side5 => exact zC HR1.out HB.out); (case side6 => exact HC1.out); rintro e w14 ⟨rfl, hb⟩; have n0_ := zBB BK175 hb; have n1_ := Aside0.mk (below_step (zH1 HB.out GE175.out) hb); clear BK175; clear HB; have BK175 := n0_; have HB := n1_; clear n0_ n1_; (try clear hb); (try clear hb2); (try clear hk); (try clear hi))); try go_wp2_with (first | ((with_reducible refine gate_dst (N := 2) rfl ?_); refine box_event ?hg (N := 2) ?hd (cs := #[.slice A0_0 l0_0.length c0_0, .slice A0_1 l0_1.length c0_1, .int .i64 a0_2]) (t := 30) ?hr ?_; (case hd => rfl); (case hg => rfl); (case hr => first | (go_simp; done) | (go_simp; rfl)); intro gb175 hg w12 hbox hb; have n0_ := Aside0.mk (below_step (zH HB.out) hb); have n1_ := Aside0.mk (hbox); have n2_ := Aside0.mk (zg hg (below_size (zH HB.out)) : w.heap.size ≤ gb175); have n3_ := Aside0.mk (zg hg (below_size (zH HB.out)) : w.heap.size ≤ gb175); clear HB; have HB := n0_; have BK175 := n1_; have GW175 := n2_; have GE175 := n3_; clear n0_ n1_ n2_ n3_; clear hb hbox hg; have hcz13_0 : w12.cell? ⟨gb175, 0, none⟩ = some (.slice A0_0 l0_0.length c0_0) := (blk_cell BK175.out 0).trans rfl; have hcz13_1 : w12.cell? ⟨gb175, 1, none⟩ = some (.slice A0_1 l0_1.length c0_1) := (blk_cell BK175.out 1).trans rfl; have hcz13_2 : w12.cell? ⟨gb175, 2, none⟩ = some (.int .i64 a0_2) := (blk_cell BK175.out 2).trans rfl; have hfz13_0 := blk_frozen BK175.out 0; have hfz13_1 := blk_frozen BK175.out 1; have hfz13_2 := blk_frozen BK175.out 2) | (go_at_call 17; (try simp only [i64_w, i32_w]); (with_reducible refine (pledgeref18_right.calls k _ _ l0_0 _ _ l0_1 a0_2 _ _ l1 false _ ?side1 ?side2 ?side3 ?side4 ?side5 ?side6 A3.out).mono ?_); (case side1 => exact zC HR0_0.out HB.out); (case side2 => exact HC0_0.out); (case side3 => exact zC HR0_1.out HB.out); (case side4 => exact HC0_1.out); (case side5 => exact zC HR1.out HB.out); (case side6 => exact HC1.out); rintro e w14 ⟨rfl, hb⟩; have n0_ := zBB BK175 hb; have n1_ := Aside0.mk (below_step (zH1 HB.out GE175.out) hb); clear BK175; clear HB; have BK175 := n0_; have HB := n1_; clear n0_ n1_; (try clear hb); (try clear hb2); (try clear hk); (try clear hi))))
  go_ret2
  exact ⟨zE, zH1 HB.out GE175.out⟩

end Go.Proofs.YteooecifecaikaaDoor.ECertSays
