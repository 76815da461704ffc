/- The functions that the law comes to, as plain functions, and for each a proof that the Go code comes to just these answers. Written by a program of this claim. Conditions: each theorem bears its own. -/
import Derived.Test.YtlalofmilhakjaaDoorELotsSayx0
import Derived.Test.YtlalofmilhakjaaDoorELotsSayx8
namespace Go.Proofs.YtlalofmilhakjaaDoor.ELotsSay
open Go.RowKit Go.Proofs.YtlalofmilhakjaaDoorW.PrintWords Go.Proofs.YtlalofmilhakjaaDoorW.PrintLast Go.Proofs.YtlalofmilhakjaaDoorW.PrintMore Go.Proofs.YtlalofmilhakjaaDoorW.PrintOpen
attribute [local go_sem] max2_int min2_int max_two min_two max_three min_three max_four min_four   -- for this text's walks alone
set_option linter.unusedVariables false
set_option linter.unusedSimpArgs false

/-! ### pledgeref18_right: function 37 -/
mutual
def pledgeref18_right.j0 : Nat → List Int → Bool → List (S25) → List Int → Int → Option (Bool)
 | 0, _, _, _, _, _ => none
 | k + 1, x1, x16, x210000, x210001, x210002 => if x16 = true then (some false) else (pledgeref18_right.l0 k x1 0 x210000 x210001 x210002)
def pledgeref18_right.l0 : Nat → List Int → Int → List (S25) → List Int → Int → Option (Bool)
 | 0, _, _, _, _, _ => none
 | k + 1, x1, x5, x210000, x210001, x210002 => if x5 < (x1.length : Int) then (if 0 ≤ x5 then (if (rd x1 x5) < 0 then (some false) else (if x5 < (x210000.length : Int) then (if (rd x1 x5) > ((rd_T25 x210000 x5).f0) then (some false) else (pledgeref18_right.l0 k x1 (wrap64 (x5 + 1)) x210000 x210001 x210002)) else (none))) else (none)) else (some true)
end
def pledgeref18_right.f (k : Nat) (l0_0 : List (S25)) (l0_1 : List Int) (a0_2 : Int) (l1 : List Int) : Option (Bool) := (pledgeref18_Valid.f k l0_0 l0_1 a0_2).bind fun t210 => (if t210 = 0 then (pledgeref18_right.j0 k l1 ((l1.length : Int) != (l0_0.length : Int)) l0_0 l0_1 a0_2) else (pledgeref18_right.j0 k l1 true l0_0 l0_1 a0_2))
theorem pledgeref18_right.mono_l : ∀ k, (∀ y0 y1 y2 y3 y4, LeO (pledgeref18_right.j0 k y0 y1 y2 y3 y4) (pledgeref18_right.j0 (k + 1) y0 y1 y2 y3 y4)) ∧ (∀ y0 y1 y2 y3 y4, LeO (pledgeref18_right.l0 k y0 y1 y2 y3 y4) (pledgeref18_right.l0 (k + 1) y0 y1 y2 y3 y4))
 | 0 => ⟨fun _ _ _ _ _ r h => by simp [pledgeref18_right.j0] at h, fun _ _ _ _ _ r h => by simp [pledgeref18_right.l0] at h⟩
 | k + 1 => by
  obtain ⟨ih0, ih1⟩ := pledgeref18_right.mono_l k; refine ⟨?_, ?_⟩
  ·
   intro y0 y1 y2 y3 y4; unfold pledgeref18_right.j0
   repeat' first
   | (with_reducible exact ih0 _ _ _ _ _)
   | (with_reducible exact ih1 _ _ _ _ _)
   | (with_reducible exact pledgeref18_Valid.mono _ _ _ _)
   | (with_reducible exact LeO.refl _)
   | (with_reducible exact LeO.none _)
   | (with_reducible refine LeO.ite ?_ ?_)
   | (with_reducible refine LeO.bind ?_ (fun _ => ?_))
   | exact ih0 _ _ _ _ _
   | exact ih1 _ _ _ _ _
   | exact pledgeref18_Valid.mono _ _ _ _
   | exact LeO.none _
   | refine LeO.ite ?_ ?_
   | refine LeO.bind ?_ (fun _ => ?_)
  ·
   intro y0 y1 y2 y3 y4; unfold pledgeref18_right.l0
   repeat' first
   | (with_reducible exact ih0 _ _ _ _ _)
   | (with_reducible exact ih1 _ _ _ _ _)
   | (with_reducible exact pledgeref18_Valid.mono _ _ _ _)
   | (with_reducible exact LeO.refl _)
   | (with_reducible exact LeO.none _)
   | (with_reducible refine LeO.ite ?_ ?_)
   | (with_reducible refine LeO.bind ?_ (fun _ => ?_))
   | exact ih0 _ _ _ _ _
   | exact ih1 _ _ _ _ _
   | exact pledgeref18_Valid.mono _ _ _ _
   | exact LeO.none _
   | refine LeO.ite ?_ ?_
   | refine LeO.bind ?_ (fun _ => ?_)
theorem pledgeref18_right.mono : ∀ a0 a1 a2 a3 k, LeO (pledgeref18_right.f k a0 a1 a2 a3) (pledgeref18_right.f (k + 1) a0 a1 a2 a3) := by
 intro a0 a1 a2 a3 k; obtain ⟨ih0, ih1⟩ := pledgeref18_right.mono_l k; unfold pledgeref18_right.f
 repeat' first
   | (with_reducible exact ih0 _ _ _ _ _)
   | (with_reducible exact ih1 _ _ _ _ _)
   | (with_reducible exact pledgeref18_Valid.mono _ _ _ _)
   | (with_reducible exact LeO.refl _)
   | (with_reducible exact LeO.none _)
   | (with_reducible refine LeO.ite ?_ ?_)
   | (with_reducible refine LeO.bind ?_ (fun _ => ?_))
   | exact ih0 _ _ _ _ _
   | exact ih1 _ _ _ _ _
   | exact pledgeref18_Valid.mono _ _ _ _
   | exact LeO.none _
   | refine LeO.ite ?_ ?_
   | refine LeO.bind ?_ (fun _ => ?_)
set_option maxHeartbeats 8000000 in
set_option maxRecDepth 100000 in
theorem pledgeref18_right.calls [Inhabited (Int → Addr)] (k : Nat) (A0_0 : Option Addr) (c0_0 : Nat) (l0_0 : List (S25)) (A0_1 : Option Addr) (c0_1 : Nat) (l0_1 : List Int) (a0_2 : Int) (A1 : Option Addr) (c1 : Nat) (l1 : List Int) (r : Bool) (w : World) (hr0_0 : Kd.C k25 w A0_0 l0_0.length l0_0) (hc0_0 : l0_0.length ≤ c0_0) (hr0_1 : Kd.C (Kd.int .i64) w A0_1 l0_1.length l0_1) (hc0_1 : l0_1.length ≤ c0_1) (hr1 : Kd.C (Kd.int .i64) w A1 l1.length l1) (hc1 : l1.length ≤ c1) (h : pledgeref18_right.f k l0_0 l0_1 a0_2 l1 = some r) :
  Calls Tryd.prog 37 #[.agg #[.slice A0_0 l0_0.length c0_0, .slice A0_1 l0_1.length c0_1, .int .i64 a0_2], .slice A1 l1.length c1] w fun e w' => e = .returned (.bool r) ∧ Below w.heap.size w w' := by
 have hu45 := Tryd.underlying45; have HR0_0 := Aside0.mk hr0_0; have HC0_0 := Aside0.mk hc0_0; clear hr0_0 hc0_0; have HR0_1 := Aside0.mk hr0_1; have HC0_1 := Aside0.mk hc0_1; clear hr0_1 hc0_1; have HR1 := Aside0.mk hr1; have HC1 := Aside0.mk hc1; clear hr1 hc1; have HB := Aside0.mk (Below.refl w.heap.size w); have H : ((pledgeref18_Valid.f k l0_0 l0_1 a0_2).bind fun t210 => (if t210 = 0 then (pledgeref18_right.j0 k l1 ((l1.length : Int) != (l0_0.length : Int)) l0_0 l0_1 a0_2) else (pledgeref18_right.j0 k l1 true l0_0 l0_1 a0_2))) = some r := h; clear h; have HC3 := Aside0.mk H; clear H
 go_enter Tryd.func37, Tryd.ntmps37
 go_upto_region 1 with (first | ((with_reducible refine gate_dst (N := 2) rfl ?_); (try (refine gate_guard (by rfl) ?_; dsimp only)); refine box_event ?hg (N := 2) ?hd (cs := #[.slice A0_0 l0_0.length c0_0, .slice A0_1 l0_1.length c0_1, .int .i64 a0_2]) (t := 45) ?hr ?_; (case hd => rfl); (case hg => rfl); (case hr => first | (go_simp; done) | (go_simp; rfl)); intro gb209 hg w4 hbox hb; have n0_ := Aside0.mk (below_step (zH HB.out) hb); have n1_ := Aside0.mk (hbox); have n2_ := Aside0.mk (zg hg (below_size (zH HB.out)) : w.heap.size ≤ gb209); have n3_ := Aside0.mk (zg hg (below_size (zH HB.out)) : w.heap.size ≤ gb209); clear HB; have HB := n0_; have BK209 := n1_; have GW209 := n2_; have GE209 := n3_; clear n0_ n1_ n2_ n3_; clear hb hbox hg))
 repeat (go_quiet (first | ((with_reducible refine gate_dst (N := 2) rfl ?_); (try (refine gate_guard (by rfl) ?_; dsimp only)); refine box_event ?hg (N := 2) ?hd (cs := #[.slice A0_0 l0_0.length c0_0, .slice A0_1 l0_1.length c0_1, .int .i64 a0_2]) (t := 45) ?hr ?_; (case hd => rfl); (case hg => rfl); (case hr => first | (go_simp; done) | (go_simp; rfl)); intro gb209 hg w4 hbox hb; have n0_ := Aside0.mk (below_step (zH HB.out) hb); have n1_ := Aside0.mk (hbox); have n2_ := Aside0.mk (zg hg (below_size (zH HB.out)) : w.heap.size ≤ gb209); have n3_ := Aside0.mk (zg hg (below_size (zH HB.out)) : w.heap.size ≤ gb209); clear HB; have HB := n0_; have BK209 := n1_; have GW209 := n2_; have GE209 := n3_; clear n0_ n1_ n2_ n3_; clear hb hbox hg)); go_upto_region 1 with (first | ((with_reducible refine gate_dst (N := 2) rfl ?_); (try (refine gate_guard (by rfl) ?_; dsimp only)); refine box_event ?hg (N := 2) ?hd (cs := #[.slice A0_0 l0_0.length c0_0, .slice A0_1 l0_1.length c0_1, .int .i64 a0_2]) (t := 45) ?hr ?_; (case hd => rfl); (case hg => rfl); (case hr => first | (go_simp; done) | (go_simp; rfl)); intro gb209 hg w4 hbox hb; have n0_ := Aside0.mk (below_step (zH HB.out) hb); have n1_ := Aside0.mk (hbox); have n2_ := Aside0.mk (zg hg (below_size (zH HB.out)) : w.heap.size ≤ gb209); have n3_ := Aside0.mk (zg hg (below_size (zH HB.out)) : w.heap.size ≤ gb209); clear HB; have HB := n0_; have BK209 := n1_; have GW209 := n2_; have GE209 := n3_; clear n0_ n1_ n2_ n3_; clear hb hbox hg)))
 (try simp only [Act.put, zq1, zq2, zq3])
 go_cut [16] (fun v16 wc => ∃ (kq : Nat) (x16_2 : Bool), v16 = .bool x16_2 ∧ Aside0 (pledgeref18_right.j0 kq l1 x16_2 l0_0 l0_1 a0_2 = some r) ∧ Aside0 (kq ≤ k) ∧ Aside0 (wc.heap[gb209]? = some (.cells #[(.slice A0_0 l0_0.length c0_0), (.slice A0_1 l0_1.length c0_1), .int .i64 a0_2] 45 (0, 0))) ∧ Aside0 (Below w.heap.size w wc))
 case first =>
  have H := HC3.out; clear HC3; replace H := Option.bind_eq_some_iff.mp H; obtain ⟨t210, A50, H⟩ := H; replace H : (if t210 = 0 then (pledgeref18_right.j0 k l1 ((l1.length : Int) != (l0_0.length : Int)) l0_0 l0_1 a0_2) else (pledgeref18_right.j0 k l1 true l0_0 l0_1 a0_2)) = some r := H; have A5 := Aside0.mk A50; clear A50; by_cases c6 : t210 = 0
  ·
   rw [if_pos c6] at H; have c6b0 : (t210 == 0) = true := beq_iff_eq.mpr c6; have c6b1 : (t210 != 0) = false := bne_eq_false_iff_eq.mpr c6; clear c6
   (first | rw [c6b0] | (simp only [i64_w, i32_w]; rw [c6b0]) | skip)
   have H' := Aside0.mk H; clear H; have hcz7_0 : w4.cell? ⟨gb209, 0, none⟩ = some (.slice A0_0 l0_0.length c0_0) := (blk_cell BK209.out 0).trans rfl; have hcz7_1 : w4.cell? ⟨gb209, 1, none⟩ = some (.slice A0_1 l0_1.length c0_1) := (blk_cell BK209.out 1).trans rfl; have hcz7_2 : w4.cell? ⟨gb209, 2, none⟩ = some (.int .i64 a0_2) := (blk_cell BK209.out 2).trans rfl; have hfz7_0 := blk_frozen BK209.out 0; have hfz7_1 := blk_frozen BK209.out 1; have hfz7_2 := blk_frozen BK209.out 2
   go_wp2_with (first | (go_at_call 19; (with_reducible refine (pledgeref18_Valid.calls k _ _ l0_0 _ _ l0_1 a0_2 t210 _ ?side1 ?side2 ?side3 ?side4 A5.out).mono ?_); (case side1 => exact zC HR0_0.out HB.out); (case side2 => exact HC0_0.out); (case side3 => exact zC HR0_1.out HB.out); (case side4 => exact HC0_1.out); rintro e w8 ⟨rfl, hb⟩; have n0_ := zBB BK209 hb; have n1_ := Aside0.mk (below_step (zH1 HB.out GE209.out) hb); clear BK209; clear HB; have BK209 := n0_; have HB := n1_; clear n0_ n1_; (try clear hb); (try clear hb2); (try clear hk); (try clear hi); have hcz9_0 : w8.cell? ⟨gb209, 0, none⟩ = some (.slice A0_0 l0_0.length c0_0) := (blk_cell BK209.out 0).trans rfl; have hcz9_1 : w8.cell? ⟨gb209, 1, none⟩ = some (.slice A0_1 l0_1.length c0_1) := (blk_cell BK209.out 1).trans rfl; have hcz9_2 : w8.cell? ⟨gb209, 2, none⟩ = some (.int .i64 a0_2) := (blk_cell BK209.out 2).trans rfl; have hfz9_0 := blk_frozen BK209.out 0; have hfz9_1 := blk_frozen BK209.out 1; have hfz9_2 := blk_frozen BK209.out 2))
   repeat (go_quiet (first | (go_at_call 19; (try simp only [i64_w, i32_w]); (with_reducible refine (pledgeref18_Valid.calls k _ _ l0_0 _ _ l0_1 a0_2 t210 _ ?side1 ?side2 ?side3 ?side4 A5.out).mono ?_); (case side1 => exact zC HR0_0.out HB.out); (case side2 => exact HC0_0.out); (case side3 => exact zC HR0_1.out HB.out); (case side4 => exact HC0_1.out); rintro e w8 ⟨rfl, hb⟩; have n0_ := zBB BK209 hb; have n1_ := Aside0.mk (below_step (zH1 HB.out GE209.out) hb); clear BK209; clear HB; have BK209 := n0_; have HB := n1_; clear n0_ n1_; (try clear hb); (try clear hb2); (try clear hk); (try clear hi); have hcz9_0 : w8.cell? ⟨gb209, 0, none⟩ = some (.slice A0_0 l0_0.length c0_0) := (blk_cell BK209.out 0).trans rfl; have hcz9_1 : w8.cell? ⟨gb209, 1, none⟩ = some (.slice A0_1 l0_1.length c0_1) := (blk_cell BK209.out 1).trans rfl; have hcz9_2 : w8.cell? ⟨gb209, 2, none⟩ = some (.int .i64 a0_2) := (blk_cell BK209.out 2).trans rfl; have hfz9_0 := blk_frozen BK209.out 0; have hfz9_1 := blk_frozen BK209.out 1; have hfz9_2 := blk_frozen BK209.out 2)); try go_wp2_with (first | (go_at_call 19; (try simp only [i64_w, i32_w]); (with_reducible refine (pledgeref18_Valid.calls k _ _ l0_0 _ _ l0_1 a0_2 t210 _ ?side1 ?side2 ?side3 ?side4 A5.out).mono ?_); (case side1 => exact zC HR0_0.out HB.out); (case side2 => exact HC0_0.out); (case side3 => exact zC HR0_1.out HB.out); (case side4 => exact HC0_1.out); rintro e w8 ⟨rfl, hb⟩; have n0_ := zBB BK209 hb; have n1_ := Aside0.mk (below_step (zH1 HB.out GE209.out) hb); clear BK209; clear HB; have BK209 := n0_; have HB := n1_; clear n0_ n1_; (try clear hb); (try clear hb2); (try clear hk); (try clear hi); have hcz9_0 : w8.cell? ⟨gb209, 0, none⟩ = some (.slice A0_0 l0_0.length c0_0) := (blk_cell BK209.out 0).trans rfl; have hcz9_1 : w8.cell? ⟨gb209, 1, none⟩ = some (.slice A0_1 l0_1.length c0_1) := (blk_cell BK209.out 1).trans rfl; have hcz9_2 : w8.cell? ⟨gb209, 2, none⟩ = some (.int .i64 a0_2) := (blk_cell BK209.out 2).trans rfl; have hfz9_0 := blk_frozen BK209.out 0; have hfz9_1 := blk_frozen BK209.out 1; have hfz9_2 := blk_frozen BK209.out 2)))
   go_meet
   case rel => exact ⟨_, (((l1.length : Int) != (l0_0.length : Int))), zS, H', ⟨by first | omega | exact Nat.le_refl _⟩, ⟨zB BK209.out⟩, ⟨zH1 HB.out GE209.out⟩⟩
  ·
   rw [if_neg c6] at H; have c6b0 : (t210 == 0) = false := beq_eq_false_iff_ne.mpr c6; have c6b1 : (t210 != 0) = true := bne_iff_ne.mpr c6
   (first | rw [c6b0] | (simp only [i64_w, i32_w]; rw [c6b0]) | skip)
   have H' := Aside0.mk H; clear H; have hcz10_0 : w4.cell? ⟨gb209, 0, none⟩ = some (.slice A0_0 l0_0.length c0_0) := (blk_cell BK209.out 0).trans rfl; have hcz10_1 : w4.cell? ⟨gb209, 1, none⟩ = some (.slice A0_1 l0_1.length c0_1) := (blk_cell BK209.out 1).trans rfl; have hcz10_2 : w4.cell? ⟨gb209, 2, none⟩ = some (.int .i64 a0_2) := (blk_cell BK209.out 2).trans rfl; have hfz10_0 := blk_frozen BK209.out 0; have hfz10_1 := blk_frozen BK209.out 1; have hfz10_2 := blk_frozen BK209.out 2
   go_wp2_with (first | (go_at_call 19; (with_reducible refine (pledgeref18_Valid.calls k _ _ l0_0 _ _ l0_1 a0_2 t210 _ ?side1 ?side2 ?side3 ?side4 A5.out).mono ?_); (case side1 => exact zC HR0_0.out HB.out); (case side2 => exact HC0_0.out); (case side3 => exact zC HR0_1.out HB.out); (case side4 => exact HC0_1.out); rintro e w11 ⟨rfl, hb⟩; have n0_ := zBB BK209 hb; have n1_ := Aside0.mk (below_step (zH1 HB.out GE209.out) hb); clear BK209; clear HB; have BK209 := n0_; have HB := n1_; clear n0_ n1_; (try clear hb); (try clear hb2); (try clear hk); (try clear hi)))
   repeat (go_quiet (first | (go_at_call 19; (try simp only [i64_w, i32_w]); (with_reducible refine (pledgeref18_Valid.calls k _ _ l0_0 _ _ l0_1 a0_2 t210 _ ?side1 ?side2 ?side3 ?side4 A5.out).mono ?_); (case side1 => exact zC HR0_0.out HB.out); (case side2 => exact HC0_0.out); (case side3 => exact zC HR0_1.out HB.out); (case side4 => exact HC0_1.out); rintro e w11 ⟨rfl, hb⟩; have n0_ := zBB BK209 hb; have n1_ := Aside0.mk (below_step (zH1 HB.out GE209.out) hb); clear BK209; clear HB; have BK209 := n0_; have HB := n1_; clear n0_ n1_; (try clear hb); (try clear hb2); (try clear hk); (try clear hi))); try go_wp2_with (first | (go_at_call 19; (try simp only [i64_w, i32_w]); (with_reducible refine (pledgeref18_Valid.calls k _ _ l0_0 _ _ l0_1 a0_2 t210 _ ?side1 ?side2 ?side3 ?side4 A5.out).mono ?_); (case side1 => exact zC HR0_0.out HB.out); (case side2 => exact HC0_0.out); (case side3 => exact zC HR0_1.out HB.out); (case side4 => exact HC0_1.out); rintro e w11 ⟨rfl, hb⟩; have n0_ := zBB BK209 hb; have n1_ := Aside0.mk (below_step (zH1 HB.out GE209.out) hb); clear BK209; clear HB; have BK209 := n0_; have HB := n1_; clear n0_ n1_; (try clear hb); (try clear hb2); (try clear hk); (try clear hi))))
   go_meet
   case rel => exact ⟨_, (true), zS, H', ⟨by first | omega | exact Nat.le_refl _⟩, ⟨zB BK209.out⟩, ⟨zH1 HB.out GE209.out⟩⟩
 case rest =>
  clear HC3
  try clear c1
  try clear p2
  try clear c3
  try clear c6
  try clear c6b0
  try clear c6b1
  try clear hcz10_0
  try clear hcz10_1
  try clear hcz10_2
  try clear hcz7_0
  try clear hcz7_1
  try clear hcz7_2
  try clear hcz9_0
  try clear hcz9_1
  try clear hcz9_2
  try clear hfz10_0
  try clear hfz10_1
  try clear hfz10_2
  try clear hfz7_0
  try clear hfz7_1
  try clear hfz7_2
  try clear hfz9_0
  try clear hfz9_1
  try clear hfz9_2
  obtain ⟨kq, x16_2, rfl, HA, HJ2, BK209, HB⟩ := hcut
  cases kq with
  | zero => exact absurd HA.out (by simp [pledgeref18_right.j0])
  | succ kj2 =>
   have H := HA.out; clear HA; simp only [pledgeref18_right.j0] at H; by_cases c12 : x16_2 = true
   ·
    subst c12; have H1 : (some false) = some r := by rw [if_pos rfl] at H; exact H
    clear H; have H := H1; clear H1; obtain rfl := Option.some.inj H
    go_wp2
    repeat (go_quiet (fail); try go_wp2)
    go_ret
    exact ⟨zE, zH1 HB.out GE209.out⟩
   ·
    replace c12 := Bool.eq_false_iff.mpr c12; subst c12; have H1 : (pledgeref18_right.l0 kj2 l1 0 l0_0 l0_1 a0_2) = some r := by rw [if_neg (show ¬ (false = true) by decide)] at H; exact H
    clear H; have H := H1; clear H1; have H' := Aside0.mk H; clear H
    go_wp2
    repeat (go_quiet (fail); try go_wp2)
    go_loopg [5] kj2 (fun kq v5 w' => ∃ (x5_2 : Int), v5 = .int .i64 x5_2 ∧ Aside0 (pledgeref18_right.l0 kq l1 x5_2 l0_0 l0_1 a0_2 = some r) ∧ Aside0 (kq ≤ kj2) ∧ Aside0 (w'.heap[gb209]? = some (.cells #[(.slice A0_0 l0_0.length c0_0), (.slice A0_1 l0_1.length c0_1), .int .i64 a0_2] 45 (0, 0))) ∧ Aside0 (Below w.heap.size w w'))
    case atStart => exact ⟨(0), zS, H', ⟨Nat.le_refl _⟩, ⟨zB BK209.out⟩, ⟨zH1 HB.out GE209.out⟩⟩
    case round =>
     clear H'
     try clear c1
     try clear p2
     try clear c3
     try clear c6
     try clear c6b0
     try clear c6b1
     try clear c12
     try clear hcz10_0
     try clear hcz10_1
     try clear hcz10_2
     try clear hcz7_0
     try clear hcz7_1
     try clear hcz7_2
     try clear hcz9_0
     try clear hcz9_1
     try clear hcz9_2
     try clear hfz10_0
     try clear hfz10_1
     try clear hfz10_2
     try clear hfz7_0
     try clear hfz7_1
     try clear hfz7_2
     try clear hfz9_0
     try clear hfz9_1
     try clear hfz9_2
     try clear p2
     obtain ⟨x5_2, rfl, HA, HK2, BK209, HB⟩ := hrel
     cases gk with
     | zero => exact absurd HA.out (by simp [pledgeref18_right.l0])
     | succ k2 =>
      have H := HA.out; clear HA; simp only [pledgeref18_right.l0] at H; by_cases c13 : x5_2 < (l1.length : Int)
      ·
       rw [if_pos c13] at H; have c13b0 : decide (x5_2 < (l1.length : Int)) = true := decide_eq_true c13; clear c13; by_cases c14 : 0 ≤ x5_2
       ·
        rw [if_pos c14] at H; have c14b0 : decide (0 ≤ x5_2) = true := decide_eq_true c14; clear c14; by_cases c15 : (rd l1 x5_2) < 0
        ·
         rw [if_pos c15] at H; have c15b0 : decide ((rd l1 x5_2) < 0) = true := decide_eq_true c15; clear c15; obtain rfl := Option.some.inj H; have p211 : 0 ≤ (x5_2 : Int) := of_decide_eq_true zA; have q211 : x5_2 < (l1.length : Int) := of_decide_eq_true zA; obtain ⟨ad211, e211, hx211_0⟩ := Kd.at_int HR1.out x5_2 p211 q211
         cases e211
         replace hx211_0 := (HB.out.cell (World.block_lt_of_cell? w _ hx211_0)).trans hx211_0; replace p211 := eq_true p211; replace q211 := eq_true q211
         go_wp2
         repeat (go_quiet (fail); try go_wp2)
         go_ret
         exact ⟨zE, zH1 HB.out GE209.out⟩
        ·
         rw [if_neg c15] at H; have c15b0 : decide ((rd l1 x5_2) < 0) = false := decide_eq_false c15; clear c15; by_cases c16 : x5_2 < (l0_0.length : Int)
         ·
          rw [if_pos c16] at H; have c16b0 : decide (x5_2 < (l0_0.length : Int)) = true := decide_eq_true c16; clear c16; by_cases c17 : (rd l1 x5_2) > ((rd_T25 l0_0 x5_2).f0)
          ·
           rw [if_pos c17] at H; have c17b0 : decide (((rd_T25 l0_0 x5_2).f0) < (rd l1 x5_2)) = true := decide_eq_true c17; clear c17; obtain rfl := Option.some.inj H; have p211 : 0 ≤ (x5_2 : Int) := of_decide_eq_true zA; have q211 : x5_2 < (l1.length : Int) := of_decide_eq_true zA; obtain ⟨ad211, e211, hx211_0⟩ := Kd.at_int HR1.out x5_2 p211 q211
           cases e211
           replace hx211_0 := (HB.out.cell (World.block_lt_of_cell? w _ hx211_0)).trans hx211_0; replace p211 := eq_true p211; replace q211 := eq_true q211; have p212 : 0 ≤ (x5_2 : Int) := of_decide_eq_true zA; have q212 : x5_2 < (l1.length : Int) := of_decide_eq_true zA; obtain ⟨ad212, e212, hx212_0⟩ := Kd.at_int HR1.out x5_2 p212 q212; obtain rfl : ad211 = ad212 := (by injection e212); replace hx212_0 := (HB.out.cell (World.block_lt_of_cell? w _ hx212_0)).trans hx212_0; replace p212 := eq_true p212; replace q212 := eq_true q212; have hcz18_0 : wr.cell? ⟨gb209, 0, none⟩ = some (.slice A0_0 l0_0.length c0_0) := (blk_cell BK209.out 0).trans rfl; have hcz18_1 : wr.cell? ⟨gb209, 1, none⟩ = some (.slice A0_1 l0_1.length c0_1) := (blk_cell BK209.out 1).trans rfl; have hcz18_2 : wr.cell? ⟨gb209, 2, none⟩ = some (.int .i64 a0_2) := (blk_cell BK209.out 2).trans rfl; have hfz18_0 := blk_frozen BK209.out 0; have hfz18_1 := blk_frozen BK209.out 1; have hfz18_2 := blk_frozen BK209.out 2; have p213 : 0 ≤ (x5_2 : Int) := of_decide_eq_true zA; have q213 : x5_2 < (l0_0.length : Int) := of_decide_eq_true zA; obtain ⟨ad213, e213, hx213_0, hx213_1, hx213_2, hx213_3⟩ := at_T25 HR0_0.out x5_2 p213 q213
           cases e213
           replace hx213_0 := (HB.out.cell (World.block_lt_of_cell? w _ hx213_0)).trans hx213_0; replace hx213_1 := (HB.out.cell (World.block_lt_of_cell? w _ hx213_1)).trans hx213_1; replace hx213_2 := (HB.out.cell (World.block_lt_of_cell? w _ hx213_2)).trans hx213_2; replace hx213_3 := (HB.out.cell (World.block_lt_of_cell? w _ hx213_3)).trans hx213_3; replace p213 := eq_true p213; replace q213 := eq_true q213
           go_wp2
           repeat (go_quiet (fail); try go_wp2)
           go_ret
           exact ⟨zE, zH1 HB.out GE209.out⟩
          ·
           rw [if_neg c17] at H; have c17b0 : decide (((rd_T25 l0_0 x5_2).f0) < (rd l1 x5_2)) = false := decide_eq_false c17; clear c17; have H' := Aside0.mk H; clear H; have p211 : 0 ≤ (x5_2 : Int) := of_decide_eq_true zA; have q211 : x5_2 < (l1.length : Int) := of_decide_eq_true zA; obtain ⟨ad211, e211, hx211_0⟩ := Kd.at_int HR1.out x5_2 p211 q211
           cases e211
           replace hx211_0 := (HB.out.cell (World.block_lt_of_cell? w _ hx211_0)).trans hx211_0; replace p211 := eq_true p211; replace q211 := eq_true q211; have p212 : 0 ≤ (x5_2 : Int) := of_decide_eq_true zA; have q212 : x5_2 < (l1.length : Int) := of_decide_eq_true zA; obtain ⟨ad212, e212, hx212_0⟩ := Kd.at_int HR1.out x5_2 p212 q212; obtain rfl : ad211 = ad212 := (by injection e212); replace hx212_0 := (HB.out.cell (World.block_lt_of_cell? w _ hx212_0)).trans hx212_0; replace p212 := eq_true p212; replace q212 := eq_true q212; have hcz19_0 : wr.cell? ⟨gb209, 0, none⟩ = some (.slice A0_0 l0_0.length c0_0) := (blk_cell BK209.out 0).trans rfl; have hcz19_1 : wr.cell? ⟨gb209, 1, none⟩ = some (.slice A0_1 l0_1.length c0_1) := (blk_cell BK209.out 1).trans rfl; have hcz19_2 : wr.cell? ⟨gb209, 2, none⟩ = some (.int .i64 a0_2) := (blk_cell BK209.out 2).trans rfl; have hfz19_0 := blk_frozen BK209.out 0; have hfz19_1 := blk_frozen BK209.out 1; have hfz19_2 := blk_frozen BK209.out 2; have p213 : 0 ≤ (x5_2 : Int) := of_decide_eq_true zA; have q213 : x5_2 < (l0_0.length : Int) := of_decide_eq_true zA; obtain ⟨ad213, e213, hx213_0, hx213_1, hx213_2, hx213_3⟩ := at_T25 HR0_0.out x5_2 p213 q213
           cases e213
           replace hx213_0 := (HB.out.cell (World.block_lt_of_cell? w _ hx213_0)).trans hx213_0; replace hx213_1 := (HB.out.cell (World.block_lt_of_cell? w _ hx213_1)).trans hx213_1; replace hx213_2 := (HB.out.cell (World.block_lt_of_cell? w _ hx213_2)).trans hx213_2; replace hx213_3 := (HB.out.cell (World.block_lt_of_cell? w _ hx213_3)).trans hx213_3; replace p213 := eq_true p213; replace q213 := eq_true q213
           go_wp2
           repeat (go_quiet (fail); try go_wp2)
           go_roundg k2
           case measure => have := HJ2.out; have := HK2.out; omega
           case rel => exact ⟨(wrap64 (x5_2 + 1)), zS, H', ⟨by have := HJ2.out; have := HK2.out; omega⟩, ⟨zB BK209.out⟩, ⟨zH1 HB.out GE209.out⟩⟩
         ·
          rw [if_neg c16] at H; exact absurd H (by simp)
       ·
        rw [if_neg c14] at H; exact absurd H (by simp)
      ·
       rw [if_neg c13] at H; have c13b0 : decide (x5_2 < (l1.length : Int)) = false := decide_eq_false c13; clear c13; obtain rfl := Option.some.inj H
       go_wp2
       repeat (go_quiet (fail); try go_wp2)
       go_ret
       exact ⟨zE, zH1 HB.out GE209.out⟩

/-! ### pledgeref18_Worth: function 20 -/
mutual
def pledgeref18_Worth.l0 : Nat → List Int → Int → Int → List (S25) → List Int → Int → Option (Int × Bool)
 | 0, _, _, _, _, _, _ => none
 | k + 1, x1, x6, x7, x215000, x215001, x215002 => if x7 < (x215001.length : Int) then (pledgeref18_Worth.l1 k x1 x6 x7 0 0 x215000 x215001 x215002) else (some (x6, true))
def pledgeref18_Worth.l1 : Nat → List Int → Int → Int → Int → Int → List (S25) → List Int → Int → Option (Int × Bool)
 | 0, _, _, _, _, _, _, _, _ => none
 | k + 1, x1, x6, x7, x8, x9, x215000, x215001, x215002 => if x9 < (x1.length : Int) then (if 0 ≤ x9 then (if x9 < (x215000.length : Int) then (if ((rd_T25 x215000 x9).f3) = x7 then (pledgeref18_Worth.l1 k x1 x6 x7 (wrap64 (x8 + (wrap64 ((rd x1 x9) * ((rd_T25 x215000 x9).f1))))) (wrap64 (x9 + 1)) x215000 x215001 x215002) else (pledgeref18_Worth.l1 k x1 x6 x7 x8 (wrap64 (x9 + 1)) x215000 x215001 x215002)) else (none)) else (none)) else (if 0 ≤ x7 then (if x7 < (x215001.length : Int) then (if (rd x215001 x7) > 0 then (if x8 > (rd x215001 x7) then (pledgeref18_Worth.l0 k x1 (wrap64 (x6 + (rd x215001 x7))) (wrap64 (x7 + 1)) x215000 x215001 x215002) else (pledgeref18_Worth.l0 k x1 (wrap64 (x6 + x8)) (wrap64 (x7 + 1)) x215000 x215001 x215002)) else (pledgeref18_Worth.l0 k x1 (wrap64 (x6 + x8)) (wrap64 (x7 + 1)) x215000 x215001 x215002)) else (none)) else (none))
end
def pledgeref18_Worth.f (k : Nat) (l0_0 : List (S25)) (l0_1 : List Int) (a0_2 : Int) (l1 : List Int) : Option (Int × Bool) := (pledgeref18_right.f k l0_0 l0_1 a0_2 l1).bind fun t215 => (if t215 = true then (pledgeref18_Worth.l0 k l1 0 0 l0_0 l0_1 a0_2) else (some (0, false)))
theorem pledgeref18_Worth.mono_l : ∀ k, (∀ y0 y1 y2 y3 y4 y5, LeO (pledgeref18_Worth.l0 k y0 y1 y2 y3 y4 y5) (pledgeref18_Worth.l0 (k + 1) y0 y1 y2 y3 y4 y5)) ∧ (∀ y0 y1 y2 y3 y4 y5 y6 y7, LeO (pledgeref18_Worth.l1 k y0 y1 y2 y3 y4 y5 y6 y7) (pledgeref18_Worth.l1 (k + 1) y0 y1 y2 y3 y4 y5 y6 y7))
 | 0 => ⟨fun _ _ _ _ _ _ r h => by simp [pledgeref18_Worth.l0] at h, fun _ _ _ _ _ _ _ _ r h => by simp [pledgeref18_Worth.l1] at h⟩
 | k + 1 => by
  obtain ⟨ih0, ih1⟩ := pledgeref18_Worth.mono_l k; refine ⟨?_, ?_⟩
  ·
   intro y0 y1 y2 y3 y4 y5; unfold pledgeref18_Worth.l0
   repeat' first
   | (with_reducible exact ih0 _ _ _ _ _ _)
   | (with_reducible exact ih1 _ _ _ _ _ _ _ _)
   | (with_reducible exact pledgeref18_right.mono _ _ _ _ _)
   | (with_reducible exact LeO.refl _)
   | (with_reducible exact LeO.none _)
   | (with_reducible refine LeO.ite ?_ ?_)
   | (with_reducible refine LeO.bind ?_ (fun _ => ?_))
   | exact ih0 _ _ _ _ _ _
   | exact ih1 _ _ _ _ _ _ _ _
   | exact pledgeref18_right.mono _ _ _ _ _
   | exact LeO.none _
   | refine LeO.ite ?_ ?_
   | refine LeO.bind ?_ (fun _ => ?_)
  ·
   intro y0 y1 y2 y3 y4 y5 y6 y7; unfold pledgeref18_Worth.l1
   repeat' first
   | (with_reducible exact ih0 _ _ _ _ _ _)
   | (with_reducible exact ih1 _ _ _ _ _ _ _ _)
   | (with_reducible exact pledgeref18_right.mono _ _ _ _ _)
   | (with_reducible exact LeO.refl _)
   | (with_reducible exact LeO.none _)
   | (with_reducible refine LeO.ite ?_ ?_)
   | (with_reducible refine LeO.bind ?_ (fun _ => ?_))
   | exact ih0 _ _ _ _ _ _
   | exact ih1 _ _ _ _ _ _ _ _
   | exact pledgeref18_right.mono _ _ _ _ _
   | exact LeO.none _
   | refine LeO.ite ?_ ?_
   | refine LeO.bind ?_ (fun _ => ?_)
theorem pledgeref18_Worth.mono : ∀ a0 a1 a2 a3 k, LeO (pledgeref18_Worth.f k a0 a1 a2 a3) (pledgeref18_Worth.f (k + 1) a0 a1 a2 a3) := by
 intro a0 a1 a2 a3 k; obtain ⟨ih0, ih1⟩ := pledgeref18_Worth.mono_l k; unfold pledgeref18_Worth.f
 repeat' first
   | (with_reducible exact ih0 _ _ _ _ _ _)
   | (with_reducible exact ih1 _ _ _ _ _ _ _ _)
   | (with_reducible exact pledgeref18_right.mono _ _ _ _ _)
   | (with_reducible exact LeO.refl _)
   | (with_reducible exact LeO.none _)
   | (with_reducible refine LeO.ite ?_ ?_)
   | (with_reducible refine LeO.bind ?_ (fun _ => ?_))
   | exact ih0 _ _ _ _ _ _
   | exact ih1 _ _ _ _ _ _ _ _
   | exact pledgeref18_right.mono _ _ _ _ _
   | exact LeO.none _
   | refine LeO.ite ?_ ?_
   | refine LeO.bind ?_ (fun _ => ?_)
set_option maxHeartbeats 8000000 in
set_option maxRecDepth 100000 in
theorem pledgeref18_Worth.calls [Inhabited (Int → Addr)] (k : Nat) (A0_0 : Option Addr) (c0_0 : Nat) (l0_0 : List (S25)) (A0_1 : Option Addr) (c0_1 : Nat) (l0_1 : List Int) (a0_2 : Int) (A1 : Option Addr) (c1 : Nat) (l1 : List Int) (r1 : Int) (r2 : Bool) (w : World) (hr0_0 : Kd.C k25 w A0_0 l0_0.length l0_0) (hc0_0 : l0_0.length ≤ c0_0) (hr0_1 : Kd.C (Kd.int .i64) w A0_1 l0_1.length l0_1) (hc0_1 : l0_1.length ≤ c0_1) (hr1 : Kd.C (Kd.int .i64) w A1 l1.length l1) (hc1 : l1.length ≤ c1) (h : pledgeref18_Worth.f k l0_0 l0_1 a0_2 l1 = some (r1, r2)) :
  Calls Tryd.prog 20 #[.agg #[.slice A0_0 l0_0.length c0_0, .slice A0_1 l0_1.length c0_1, .int .i64 a0_2], .slice A1 l1.length c1] w fun e w' => e = .returned (.tuple #[.int .i64 r1, .bool r2]) ∧ Below w.heap.size w w' := by
 have hu45 := Tryd.underlying45; have HR0_0 := Aside0.mk hr0_0; have HC0_0 := Aside0.mk hc0_0; clear hr0_0 hc0_0; have HR0_1 := Aside0.mk hr0_1; have HC0_1 := Aside0.mk hc0_1; clear hr0_1 hc0_1; have HR1 := Aside0.mk hr1; have HC1 := Aside0.mk hc1; clear hr1 hc1; have HB := Aside0.mk (Below.refl w.heap.size w); have H : ((pledgeref18_right.f k l0_0 l0_1 a0_2 l1).bind fun t215 => (if t215 = true then (pledgeref18_Worth.l0 k l1 0 0 l0_0 l0_1 a0_2) else (some (0, false)))) = some (r1, r2) := h; clear h; replace H := Option.bind_eq_some_iff.mp H; obtain ⟨t215, A30, H⟩ := H; replace H : (if t215 = true then (pledgeref18_Worth.l0 k l1 0 0 l0_0 l0_1 a0_2) else (some (0, false))) = some (r1, r2) := H; have A3 := Aside0.mk A30; clear A30; by_cases c4 : t215 = true
 ·
  subst c4; have H1 : (pledgeref18_Worth.l0 k l1 0 0 l0_0 l0_1 a0_2) = some (r1, r2) := by rw [if_pos rfl] at H; exact H
  clear H; have H := H1; clear H1; have H' := Aside0.mk H; clear H
  go_enter Tryd.func20, Tryd.ntmps20
  go_wp2_with (first | ((with_reducible refine gate_dst (N := 2) rfl ?_); refine box_event ?hg (N := 2) ?hd (cs := #[.slice A0_0 l0_0.length c0_0, .slice A0_1 l0_1.length c0_1, .int .i64 a0_2]) (t := 45) ?hr ?_; (case hd => rfl); (case hg => rfl); (case hr => first | (go_simp; done) | (go_simp; rfl)); intro gb214 hg w5 hbox hb; have n0_ := Aside0.mk (below_step (zH HB.out) hb); have n1_ := Aside0.mk (hbox); have n2_ := Aside0.mk (zg hg (below_size (zH HB.out)) : w.heap.size ≤ gb214); have n3_ := Aside0.mk (zg hg (below_size (zH HB.out)) : w.heap.size ≤ gb214); clear HB; have HB := n0_; have BK214 := n1_; have GW214 := n2_; have GE214 := n3_; clear n0_ n1_ n2_ n3_; clear hb hbox hg; have hcz6_0 : w5.cell? ⟨gb214, 0, none⟩ = some (.slice A0_0 l0_0.length c0_0) := (blk_cell BK214.out 0).trans rfl; have hcz6_1 : w5.cell? ⟨gb214, 1, none⟩ = some (.slice A0_1 l0_1.length c0_1) := (blk_cell BK214.out 1).trans rfl; have hcz6_2 : w5.cell? ⟨gb214, 2, none⟩ = some (.int .i64 a0_2) := (blk_cell BK214.out 2).trans rfl; have hfz6_0 := blk_frozen BK214.out 0; have hfz6_1 := blk_frozen BK214.out 1; have hfz6_2 := blk_frozen BK214.out 2) | (go_at_call 37; (with_reducible refine (pledgeref18_right.calls k _ _ l0_0 _ _ l0_1 a0_2 _ _ l1 true _ ?side1 ?side2 ?side3 ?side4 ?side5 ?side6 A3.out).mono ?_); (case side1 => exact zC HR0_0.out HB.out); (case side2 => exact HC0_0.out); (case side3 => exact zC HR0_1.out HB.out); (case side4 => exact HC0_1.out); (case side5 => exact zC HR1.out HB.out); (case side6 => exact HC1.out); rintro e w7 ⟨rfl, hb⟩; have n0_ := zBB BK214 hb; have n1_ := Aside0.mk (below_step (zH1 HB.out GE214.out) hb); clear BK214; clear HB; have BK214 := n0_; have HB := n1_; clear n0_ n1_; (try clear hb); (try clear hb2); (try clear hk); (try clear hi)))
  repeat (go_quiet (first | ((with_reducible refine gate_dst (N := 2) rfl ?_); refine box_event ?hg (N := 2) ?hd (cs := #[.slice A0_0 l0_0.length c0_0, .slice A0_1 l0_1.length c0_1, .int .i64 a0_2]) (t := 45) ?hr ?_; (case hd => rfl); (case hg => rfl); (case hr => first | (go_simp; done) | (go_simp; rfl)); intro gb214 hg w5 hbox hb; have n0_ := Aside0.mk (below_step (zH HB.out) hb); have n1_ := Aside0.mk (hbox); have n2_ := Aside0.mk (zg hg (below_size (zH HB.out)) : w.heap.size ≤ gb214); have n3_ := Aside0.mk (zg hg (below_size (zH HB.out)) : w.heap.size ≤ gb214); clear HB; have HB := n0_; have BK214 := n1_; have GW214 := n2_; have GE214 := n3_; clear n0_ n1_ n2_ n3_; clear hb hbox hg; have hcz6_0 : w5.cell? ⟨gb214, 0, none⟩ = some (.slice A0_0 l0_0.length c0_0) := (blk_cell BK214.out 0).trans rfl; have hcz6_1 : w5.cell? ⟨gb214, 1, none⟩ = some (.slice A0_1 l0_1.length c0_1) := (blk_cell BK214.out 1).trans rfl; have hcz6_2 : w5.cell? ⟨gb214, 2, none⟩ = some (.int .i64 a0_2) := (blk_cell BK214.out 2).trans rfl; have hfz6_0 := blk_frozen BK214.out 0; have hfz6_1 := blk_frozen BK214.out 1; have hfz6_2 := blk_frozen BK214.out 2) | (go_at_call 37; (try simp only [i64_w, i32_w]); (with_reducible refine (pledgeref18_right.calls k _ _ l0_0 _ _ l0_1 a0_2 _ _ l1 true _ ?side1 ?side2 ?side3 ?side4 ?side5 ?side6 A3.out).mono ?_); (case side1 => exact zC HR0_0.out HB.out); (case side2 => exact HC0_0.out); (case side3 => exact zC HR0_1.out HB.out); (case side4 => exact HC0_1.out); (case side5 => exact zC HR1.out HB.out); (case side6 => exact HC1.out); rintro e w7 ⟨rfl, hb⟩; have n0_ := zBB BK214 hb; have n1_ := Aside0.mk (below_step (zH1 HB.out GE214.out) hb); clear BK214; clear HB; have BK214 := n0_; have HB := n1_; clear n0_ n1_; (try clear hb); (try clear hb2); (try clear hk); (try clear hi))); try go_wp2_with (first | ((with_reducible refine gate_dst (N := 2) rfl ?_); refine box_event ?hg (N := 2) ?hd (cs := #[.slice A0_0 l0_0.length c0_0, .slice A0_1 l0_1.length c0_1, .int .i64 a0_2]) (t := 45) ?hr ?_; (case hd => rfl); (case hg => rfl); (case hr => first | (go_simp; done) | (go_simp; rfl)); intro gb214 hg w5 hbox hb; have n0_ := Aside0.mk (below_step (zH HB.out) hb); have n1_ := Aside0.mk (hbox); have n2_ := Aside0.mk (zg hg (below_size (zH HB.out)) : w.heap.size ≤ gb214); have n3_ := Aside0.mk (zg hg (below_size (zH HB.out)) : w.heap.size ≤ gb214); clear HB; have HB := n0_; have BK214 := n1_; have GW214 := n2_; have GE214 := n3_; clear n0_ n1_ n2_ n3_; clear hb hbox hg; have hcz6_0 : w5.cell? ⟨gb214, 0, none⟩ = some (.slice A0_0 l0_0.length c0_0) := (blk_cell BK214.out 0).trans rfl; have hcz6_1 : w5.cell? ⟨gb214, 1, none⟩ = some (.slice A0_1 l0_1.length c0_1) := (blk_cell BK214.out 1).trans rfl; have hcz6_2 : w5.cell? ⟨gb214, 2, none⟩ = some (.int .i64 a0_2) := (blk_cell BK214.out 2).trans rfl; have hfz6_0 := blk_frozen BK214.out 0; have hfz6_1 := blk_frozen BK214.out 1; have hfz6_2 := blk_frozen BK214.out 2) | (go_at_call 37; (try simp only [i64_w, i32_w]); (with_reducible refine (pledgeref18_right.calls k _ _ l0_0 _ _ l0_1 a0_2 _ _ l1 true _ ?side1 ?side2 ?side3 ?side4 ?side5 ?side6 A3.out).mono ?_); (case side1 => exact zC HR0_0.out HB.out); (case side2 => exact HC0_0.out); (case side3 => exact zC HR0_1.out HB.out); (case side4 => exact HC0_1.out); (case side5 => exact zC HR1.out HB.out); (case side6 => exact HC1.out); rintro e w7 ⟨rfl, hb⟩; have n0_ := zBB BK214 hb; have n1_ := Aside0.mk (below_step (zH1 HB.out GE214.out) hb); clear BK214; clear HB; have BK214 := n0_; have HB := n1_; clear n0_ n1_; (try clear hb); (try clear hb2); (try clear hk); (try clear hi))))
  go_loopg [6, 7] k (fun kq v6 v7 w' => ∃ (x6_1 : Int) (x7_1 : Int), v6 = .int .i64 x6_1 ∧ v7 = .int .i64 x7_1 ∧ Aside0 (pledgeref18_Worth.l0 kq l1 x6_1 x7_1 l0_0 l0_1 a0_2 = some (r1, r2)) ∧ Aside0 (kq ≤ k) ∧ Aside0 (w'.heap[gb214]? = some (.cells #[(.slice A0_0 l0_0.length c0_0), (.slice A0_1 l0_1.length c0_1), .int .i64 a0_2] 45 (0, 0))) ∧ Aside0 (Below w.heap.size w w'))
  case atStart => exact ⟨(0), (0), zS, zS, H', ⟨Nat.le_refl _⟩, ⟨zB BK214.out⟩, ⟨zH1 HB.out GE214.out⟩⟩
  case round =>
   clear H'
   try clear c1
   try clear c2
   try clear p2
   try clear c4
   try clear hcz6_0
   try clear hcz6_1
   try clear hcz6_2
   try clear hfz6_0
   try clear hfz6_1
   try clear hfz6_2
   obtain ⟨x6_1, x7_1, rfl, rfl, HA, HK1, BK214, HB⟩ := hrel
   cases gk with
   | zero => exact absurd HA.out (by simp [pledgeref18_Worth.l0])
   | succ k1 =>
    have H := HA.out; clear HA; simp only [pledgeref18_Worth.l0] at H; by_cases c8 : x7_1 < (l0_1.length : Int)
    ·
     rw [if_pos c8] at H; have c8b0 : decide (x7_1 < (l0_1.length : Int)) = true := decide_eq_true c8; clear c8; have H' := Aside0.mk H; clear H; have hcz9_0 : wr.cell? ⟨gb214, 0, none⟩ = some (.slice A0_0 l0_0.length c0_0) := (blk_cell BK214.out 0).trans rfl; have hcz9_1 : wr.cell? ⟨gb214, 1, none⟩ = some (.slice A0_1 l0_1.length c0_1) := (blk_cell BK214.out 1).trans rfl; have hcz9_2 : wr.cell? ⟨gb214, 2, none⟩ = some (.int .i64 a0_2) := (blk_cell BK214.out 2).trans rfl; have hfz9_0 := blk_frozen BK214.out 0; have hfz9_1 := blk_frozen BK214.out 1; have hfz9_2 := blk_frozen BK214.out 2
     go_wp2
     repeat (go_quiet (fail); try go_wp2)
     go_loopg [8, 9] k1 (fun kq v8 v9 w' => ∃ (x8_2 : Int) (x9_2 : Int), v8 = .int .i64 x8_2 ∧ v9 = .int .i64 x9_2 ∧ Aside0 (pledgeref18_Worth.l1 kq l1 x6_1 x7_1 x8_2 x9_2 l0_0 l0_1 a0_2 = some (r1, r2)) ∧ Aside0 (kq ≤ k1) ∧ Aside0 (w'.heap[gb214]? = some (.cells #[(.slice A0_0 l0_0.length c0_0), (.slice A0_1 l0_1.length c0_1), .int .i64 a0_2] 45 (0, 0))) ∧ Aside0 (Below w.heap.size w w'))
     case atStart => exact ⟨(0), (0), zS, zS, H', ⟨Nat.le_refl _⟩, ⟨zB BK214.out⟩, ⟨zH1 HB.out GE214.out⟩⟩
     case round =>
      clear H'
      try clear c1
      try clear c2
      try clear p2
      try clear c4
      try clear c8
      try clear c8b0
      try clear hcz6_0
      try clear hcz6_1
      try clear hcz6_2
      try clear hcz9_0
      try clear hcz9_1
      try clear hcz9_2
      try clear hfz6_0
      try clear hfz6_1
      try clear hfz6_2
      try clear hfz9_0
      try clear hfz9_1
      try clear hfz9_2
      try clear p2
      obtain ⟨x8_2, x9_2, rfl, rfl, HA, HK2, BK214, HB⟩ := hrel
      cases gk with
      | zero => exact absurd HA.out (by simp [pledgeref18_Worth.l1])
      | succ k2 =>
       have H := HA.out; clear HA; simp only [pledgeref18_Worth.l1] at H; by_cases c10 : x9_2 < (l1.length : Int)
       ·
        rw [if_pos c10] at H; have c10b0 : decide (x9_2 < (l1.length : Int)) = true := decide_eq_true c10; clear c10; by_cases c11 : 0 ≤ x9_2
        ·
         rw [if_pos c11] at H; have c11b0 : decide (0 ≤ x9_2) = true := decide_eq_true c11; clear c11; by_cases c12 : x9_2 < (l0_0.length : Int)
         ·
          rw [if_pos c12] at H; have c12b0 : decide (x9_2 < (l0_0.length : Int)) = true := decide_eq_true c12; clear c12; by_cases c13 : ((rd_T25 l0_0 x9_2).f3) = x7_1
          ·
           rw [if_pos c13] at H; have c13b0 : (((rd_T25 l0_0 x9_2).f3) == x7_1) = true := beq_iff_eq.mpr c13; have c13b1 : (((rd_T25 l0_0 x9_2).f3) != x7_1) = false := bne_eq_false_iff_eq.mpr c13; clear c13; have H' := Aside0.mk H; clear H; have hcz14_0 : wr.cell? ⟨gb214, 0, none⟩ = some (.slice A0_0 l0_0.length c0_0) := (blk_cell BK214.out 0).trans rfl; have hcz14_1 : wr.cell? ⟨gb214, 1, none⟩ = some (.slice A0_1 l0_1.length c0_1) := (blk_cell BK214.out 1).trans rfl; have hcz14_2 : wr.cell? ⟨gb214, 2, none⟩ = some (.int .i64 a0_2) := (blk_cell BK214.out 2).trans rfl; have hfz14_0 := blk_frozen BK214.out 0; have hfz14_1 := blk_frozen BK214.out 1; have hfz14_2 := blk_frozen BK214.out 2; have p216 : 0 ≤ (x9_2 : Int) := of_decide_eq_true zA; have q216 : x9_2 < (l0_0.length : Int) := of_decide_eq_true zA; obtain ⟨ad216, e216, hx216_0, hx216_1, hx216_2, hx216_3⟩ := at_T25 HR0_0.out x9_2 p216 q216
           cases e216
           replace hx216_0 := (HB.out.cell (World.block_lt_of_cell? w _ hx216_0)).trans hx216_0; replace hx216_1 := (HB.out.cell (World.block_lt_of_cell? w _ hx216_1)).trans hx216_1; replace hx216_2 := (HB.out.cell (World.block_lt_of_cell? w _ hx216_2)).trans hx216_2; replace hx216_3 := (HB.out.cell (World.block_lt_of_cell? w _ hx216_3)).trans hx216_3; replace p216 := eq_true p216; replace q216 := eq_true q216; have p217 : 0 ≤ (x9_2 : Int) := of_decide_eq_true zA; have q217 : x9_2 < (l1.length : Int) := of_decide_eq_true zA; obtain ⟨ad217, e217, hx217_0⟩ := Kd.at_int HR1.out x9_2 p217 q217
           cases e217
           replace hx217_0 := (HB.out.cell (World.block_lt_of_cell? w _ hx217_0)).trans hx217_0; replace p217 := eq_true p217; replace q217 := eq_true q217; have p218 : 0 ≤ (x9_2 : Int) := of_decide_eq_true zA; have q218 : x9_2 < (l0_0.length : Int) := of_decide_eq_true zA; obtain ⟨ad218, e218, hx218_0, hx218_1, hx218_2, hx218_3⟩ := at_T25 HR0_0.out x9_2 p218 q218; obtain rfl : ad216 = ad218 := (by injection e218); replace hx218_0 := (HB.out.cell (World.block_lt_of_cell? w _ hx218_0)).trans hx218_0; replace hx218_1 := (HB.out.cell (World.block_lt_of_cell? w _ hx218_1)).trans hx218_1; replace hx218_2 := (HB.out.cell (World.block_lt_of_cell? w _ hx218_2)).trans hx218_2; replace hx218_3 := (HB.out.cell (World.block_lt_of_cell? w _ hx218_3)).trans hx218_3; replace p218 := eq_true p218; replace q218 := eq_true q218
           go_wp2
           repeat (go_quiet (fail); try go_wp2)
           go_roundg k2
           case measure => have := HK1.out; have := HK2.out; omega
           case rel => exact ⟨(wrap64 (x8_2 + (wrap64 ((rd l1 x9_2) * ((rd_T25 l0_0 x9_2).f1))))), (wrap64 (x9_2 + 1)), zS, zS, H', ⟨by have := HK1.out; have := HK2.out; omega⟩, ⟨zB BK214.out⟩, ⟨zH1 HB.out GE214.out⟩⟩
          ·
           rw [if_neg c13] at H; have c13b0 : (((rd_T25 l0_0 x9_2).f3) == x7_1) = false := beq_eq_false_iff_ne.mpr c13; have c13b1 : (((rd_T25 l0_0 x9_2).f3) != x7_1) = true := bne_iff_ne.mpr c13; have H' := Aside0.mk H; clear H; have hcz15_0 : wr.cell? ⟨gb214, 0, none⟩ = some (.slice A0_0 l0_0.length c0_0) := (blk_cell BK214.out 0).trans rfl; have hcz15_1 : wr.cell? ⟨gb214, 1, none⟩ = some (.slice A0_1 l0_1.length c0_1) := (blk_cell BK214.out 1).trans rfl; have hcz15_2 : wr.cell? ⟨gb214, 2, none⟩ = some (.int .i64 a0_2) := (blk_cell BK214.out 2).trans rfl; have hfz15_0 := blk_frozen BK214.out 0; have hfz15_1 := blk_frozen BK214.out 1; have hfz15_2 := blk_frozen BK214.out 2; have p216 : 0 ≤ (x9_2 : Int) := of_decide_eq_true zA; have q216 : x9_2 < (l0_0.length : Int) := of_decide_eq_true zA; obtain ⟨ad216, e216, hx216_0, hx216_1, hx216_2, hx216_3⟩ := at_T25 HR0_0.out x9_2 p216 q216
           cases e216
           replace hx216_0 := (HB.out.cell (World.block_lt_of_cell? w _ hx216_0)).trans hx216_0; replace hx216_1 := (HB.out.cell (World.block_lt_of_cell? w _ hx216_1)).trans hx216_1; replace hx216_2 := (HB.out.cell (World.block_lt_of_cell? w _ hx216_2)).trans hx216_2; replace hx216_3 := (HB.out.cell (World.block_lt_of_cell? w _ hx216_3)).trans hx216_3; replace p216 := eq_true p216; replace q216 := eq_true q216
           go_wp2
           repeat (go_quiet (fail); try go_wp2)
           go_roundg k2
           case measure => have := HK1.out; have := HK2.out; omega
           case rel => exact ⟨(x8_2), (wrap64 (x9_2 + 1)), zS, zS, H', ⟨by have := HK1.out; have := HK2.out; omega⟩, ⟨zB BK214.out⟩, ⟨zH1 HB.out GE214.out⟩⟩
         ·
          rw [if_neg c12] at H; exact absurd H (by simp)
        ·
         rw [if_neg c11] at H; exact absurd H (by simp)
       ·
        rw [if_neg c10] at H; have c10b0 : decide (x9_2 < (l1.length : Int)) = false := decide_eq_false c10; clear c10; by_cases c16 : 0 ≤ x7_1
        ·
         rw [if_pos c16] at H; have c16b0 : decide (0 ≤ x7_1) = true := decide_eq_true c16; clear c16; by_cases c17 : x7_1 < (l0_1.length : Int)
         ·
          rw [if_pos c17] at H; have c17b0 : decide (x7_1 < (l0_1.length : Int)) = true := decide_eq_true c17; clear c17; by_cases c18 : (rd l0_1 x7_1) > 0
          ·
           rw [if_pos c18] at H; have c18b0 : decide (0 < (rd l0_1 x7_1)) = true := decide_eq_true c18; clear c18; by_cases c19 : x8_2 > (rd l0_1 x7_1)
           ·
            rw [if_pos c19] at H; have c19b0 : decide ((rd l0_1 x7_1) < x8_2) = true := decide_eq_true c19; clear c19; have H' := Aside0.mk H; clear H; have hcz20_0 : wr.cell? ⟨gb214, 0, none⟩ = some (.slice A0_0 l0_0.length c0_0) := (blk_cell BK214.out 0).trans rfl; have hcz20_1 : wr.cell? ⟨gb214, 1, none⟩ = some (.slice A0_1 l0_1.length c0_1) := (blk_cell BK214.out 1).trans rfl; have hcz20_2 : wr.cell? ⟨gb214, 2, none⟩ = some (.int .i64 a0_2) := (blk_cell BK214.out 2).trans rfl; have hfz20_0 := blk_frozen BK214.out 0; have hfz20_1 := blk_frozen BK214.out 1; have hfz20_2 := blk_frozen BK214.out 2; have p219 : 0 ≤ (x7_1 : Int) := of_decide_eq_true zA; have q219 : x7_1 < (l0_1.length : Int) := of_decide_eq_true zA; obtain ⟨ad219, e219, hx219_0⟩ := Kd.at_int HR0_1.out x7_1 p219 q219
            cases e219
            replace hx219_0 := (HB.out.cell (World.block_lt_of_cell? w _ hx219_0)).trans hx219_0; replace p219 := eq_true p219; replace q219 := eq_true q219; have p220 : 0 ≤ (x7_1 : Int) := of_decide_eq_true zA; have q220 : x7_1 < (l0_1.length : Int) := of_decide_eq_true zA; obtain ⟨ad220, e220, hx220_0⟩ := Kd.at_int HR0_1.out x7_1 p220 q220; obtain rfl : ad219 = ad220 := (by injection e220); replace hx220_0 := (HB.out.cell (World.block_lt_of_cell? w _ hx220_0)).trans hx220_0; replace p220 := eq_true p220; replace q220 := eq_true q220; have p221 : 0 ≤ (x7_1 : Int) := of_decide_eq_true zA; have q221 : x7_1 < (l0_1.length : Int) := of_decide_eq_true zA; obtain ⟨ad221, e221, hx221_0⟩ := Kd.at_int HR0_1.out x7_1 p221 q221; obtain rfl : ad219 = ad221 := (by injection e221); replace hx221_0 := (HB.out.cell (World.block_lt_of_cell? w _ hx221_0)).trans hx221_0; replace p221 := eq_true p221; replace q221 := eq_true q221
            go_wp2
            repeat (go_quiet (fail); try go_wp2)
            go_roundg k2
            case measure => have := HK1.out; have := HK2.out; omega
            case rel => exact ⟨(wrap64 (x6_1 + (rd l0_1 x7_1))), (wrap64 (x7_1 + 1)), zS, zS, H', ⟨by have := HK1.out; have := HK2.out; omega⟩, ⟨zB BK214.out⟩, ⟨zH1 HB.out GE214.out⟩⟩
           ·
            rw [if_neg c19] at H; have c19b0 : decide ((rd l0_1 x7_1) < x8_2) = false := decide_eq_false c19; clear c19; have H' := Aside0.mk H; clear H; have hcz21_0 : wr.cell? ⟨gb214, 0, none⟩ = some (.slice A0_0 l0_0.length c0_0) := (blk_cell BK214.out 0).trans rfl; have hcz21_1 : wr.cell? ⟨gb214, 1, none⟩ = some (.slice A0_1 l0_1.length c0_1) := (blk_cell BK214.out 1).trans rfl; have hcz21_2 : wr.cell? ⟨gb214, 2, none⟩ = some (.int .i64 a0_2) := (blk_cell BK214.out 2).trans rfl; have hfz21_0 := blk_frozen BK214.out 0; have hfz21_1 := blk_frozen BK214.out 1; have hfz21_2 := blk_frozen BK214.out 2; have p219 : 0 ≤ (x7_1 : Int) := of_decide_eq_true zA; have q219 : x7_1 < (l0_1.length : Int) := of_decide_eq_true zA; obtain ⟨ad219, e219, hx219_0⟩ := Kd.at_int HR0_1.out x7_1 p219 q219
            cases e219
            replace hx219_0 := (HB.out.cell (World.block_lt_of_cell? w _ hx219_0)).trans hx219_0; replace p219 := eq_true p219; replace q219 := eq_true q219; have p220 : 0 ≤ (x7_1 : Int) := of_decide_eq_true zA; have q220 : x7_1 < (l0_1.length : Int) := of_decide_eq_true zA; obtain ⟨ad220, e220, hx220_0⟩ := Kd.at_int HR0_1.out x7_1 p220 q220; obtain rfl : ad219 = ad220 := (by injection e220); replace hx220_0 := (HB.out.cell (World.block_lt_of_cell? w _ hx220_0)).trans hx220_0; replace p220 := eq_true p220; replace q220 := eq_true q220
            go_wp2
            repeat (go_quiet (fail); try go_wp2)
            go_roundg k2
            case measure => have := HK1.out; have := HK2.out; omega
            case rel => exact ⟨(wrap64 (x6_1 + x8_2)), (wrap64 (x7_1 + 1)), zS, zS, H', ⟨by have := HK1.out; have := HK2.out; omega⟩, ⟨zB BK214.out⟩, ⟨zH1 HB.out GE214.out⟩⟩
          ·
           rw [if_neg c18] at H; have c18b0 : decide (0 < (rd l0_1 x7_1)) = false := decide_eq_false c18; clear c18; have H' := Aside0.mk H; clear H; have hcz22_0 : wr.cell? ⟨gb214, 0, none⟩ = some (.slice A0_0 l0_0.length c0_0) := (blk_cell BK214.out 0).trans rfl; have hcz22_1 : wr.cell? ⟨gb214, 1, none⟩ = some (.slice A0_1 l0_1.length c0_1) := (blk_cell BK214.out 1).trans rfl; have hcz22_2 : wr.cell? ⟨gb214, 2, none⟩ = some (.int .i64 a0_2) := (blk_cell BK214.out 2).trans rfl; have hfz22_0 := blk_frozen BK214.out 0; have hfz22_1 := blk_frozen BK214.out 1; have hfz22_2 := blk_frozen BK214.out 2; have p219 : 0 ≤ (x7_1 : Int) := of_decide_eq_true zA; have q219 : x7_1 < (l0_1.length : Int) := of_decide_eq_true zA; obtain ⟨ad219, e219, hx219_0⟩ := Kd.at_int HR0_1.out x7_1 p219 q219
           cases e219
           replace hx219_0 := (HB.out.cell (World.block_lt_of_cell? w _ hx219_0)).trans hx219_0; replace p219 := eq_true p219; replace q219 := eq_true q219
           go_wp2
           repeat (go_quiet (fail); try go_wp2)
           go_roundg k2
           case measure => have := HK1.out; have := HK2.out; omega
           case rel => exact ⟨(wrap64 (x6_1 + x8_2)), (wrap64 (x7_1 + 1)), zS, zS, H', ⟨by have := HK1.out; have := HK2.out; omega⟩, ⟨zB BK214.out⟩, ⟨zH1 HB.out GE214.out⟩⟩
         ·
          rw [if_neg c17] at H; exact absurd H (by simp)
        ·
         rw [if_neg c16] at H; exact absurd H (by simp)
    ·
     rw [if_neg c8] at H; have c8b0 : decide (x7_1 < (l0_1.length : Int)) = false := decide_eq_false c8; clear c8; simp only [Option.some.injEq, Prod.mk.injEq] at H; obtain ⟨rfl, rfl⟩ := H; have hcz23_0 : wr.cell? ⟨gb214, 0, none⟩ = some (.slice A0_0 l0_0.length c0_0) := (blk_cell BK214.out 0).trans rfl; have hcz23_1 : wr.cell? ⟨gb214, 1, none⟩ = some (.slice A0_1 l0_1.length c0_1) := (blk_cell BK214.out 1).trans rfl; have hcz23_2 : wr.cell? ⟨gb214, 2, none⟩ = some (.int .i64 a0_2) := (blk_cell BK214.out 2).trans rfl; have hfz23_0 := blk_frozen BK214.out 0; have hfz23_1 := blk_frozen BK214.out 1; have hfz23_2 := blk_frozen BK214.out 2
     go_wp2
     repeat (go_quiet (fail); try go_wp2)
     go_ret2
     exact ⟨zE, zH1 HB.out GE214.out⟩
 ·
  replace c4 := Bool.eq_false_iff.mpr c4; subst c4; have H1 : (some (0, false)) = some (r1, r2) := by rw [if_neg (show ¬ (false = true) by decide)] at H; exact H
  clear H; have H := H1; clear H1; simp only [Option.some.injEq, Prod.mk.injEq] at H; obtain ⟨rfl, rfl⟩ := H
  go_enter Tryd.func20, Tryd.ntmps20
  go_wp2_with (first | ((with_reducible refine gate_dst (N := 2) rfl ?_); refine box_event ?hg (N := 2) ?hd (cs := #[.slice A0_0 l0_0.length c0_0, .slice A0_1 l0_1.length c0_1, .int .i64 a0_2]) (t := 45) ?hr ?_; (case hd => rfl); (case hg => rfl); (case hr => first | (go_simp; done) | (go_simp; rfl)); intro gb214 hg w24 hbox hb; have n0_ := Aside0.mk (below_step (zH HB.out) hb); have n1_ := Aside0.mk (hbox); have n2_ := Aside0.mk (zg hg (below_size (zH HB.out)) : w.heap.size ≤ gb214); have n3_ := Aside0.mk (zg hg (below_size (zH HB.out)) : w.heap.size ≤ gb214); clear HB; have HB := n0_; have BK214 := n1_; have GW214 := n2_; have GE214 := n3_; clear n0_ n1_ n2_ n3_; clear hb hbox hg; have hcz25_0 : w24.cell? ⟨gb214, 0, none⟩ = some (.slice A0_0 l0_0.length c0_0) := (blk_cell BK214.out 0).trans rfl; have hcz25_1 : w24.cell? ⟨gb214, 1, none⟩ = some (.slice A0_1 l0_1.length c0_1) := (blk_cell BK214.out 1).trans rfl; have hcz25_2 : w24.cell? ⟨gb214, 2, none⟩ = some (.int .i64 a0_2) := (blk_cell BK214.out 2).trans rfl; have hfz25_0 := blk_frozen BK214.out 0; have hfz25_1 := blk_frozen BK214.out 1; have hfz25_2 := blk_frozen BK214.out 2) | (go_at_call 37; (with_reducible refine (pledgeref18_right.calls k _ _ l0_0 _ _ l0_1 a0_2 _ _ l1 false _ ?side1 ?side2 ?side3 ?side4 ?side5 ?side6 A3.out).mono ?_); (case side1 => exact zC HR0_0.out HB.out); (case side2 => exact HC0_0.out); (case side3 => exact zC HR0_1.out HB.out); (case side4 => exact HC0_1.out); (case side5 => exact zC HR1.out HB.out); (case side6 => exact HC1.out); rintro e w26 ⟨rfl, hb⟩; have n0_ := zBB BK214 hb; have n1_ := Aside0.mk (below_step (zH1 HB.out GE214.out) hb); clear BK214; clear HB; have BK214 := n0_; have HB := n1_; clear n0_ n1_; (try clear hb); (try clear hb2); (try clear hk); (try clear hi)))
  repeat (go_quiet (first | ((with_reducible refine gate_dst (N := 2) rfl ?_); refine box_event ?hg (N := 2) ?hd (cs := #[.slice A0_0 l0_0.length c0_0, .slice A0_1 l0_1.length c0_1, .int .i64 a0_2]) (t := 45) ?hr ?_; (case hd => rfl); (case hg => rfl); (case hr => first | (go_simp; done) | (go_simp; rfl)); intro gb214 hg w24 hbox hb; have n0_ := Aside0.mk (below_step (zH HB.out) hb); have n1_ := Aside0.mk (hbox); have n2_ := Aside0.mk (zg hg (below_size (zH HB.out)) : w.heap.size ≤ gb214); have n3_ := Aside0.mk (zg hg (below_size (zH HB.out)) : w.heap.size ≤ gb214); clear HB; have HB := n0_; have BK214 := n1_; have GW214 := n2_; have GE214 := n3_; clear n0_ n1_ n2_ n3_; clear hb hbox hg; have hcz25_0 : w24.cell? ⟨gb214, 0, none⟩ = some (.slice A0_0 l0_0.length c0_0) := (blk_cell BK214.out 0).trans rfl; have hcz25_1 : w24.cell? ⟨gb214, 1, none⟩ = some (.slice A0_1 l0_1.length c0_1) := (blk_cell BK214.out 1).trans rfl; have hcz25_2 : w24.cell? ⟨gb214, 2, none⟩ = some (.int .i64 a0_2) := (blk_cell BK214.out 2).trans rfl; have hfz25_0 := blk_frozen BK214.out 0; have hfz25_1 := blk_frozen BK214.out 1; have hfz25_2 := blk_frozen BK214.out 2) | (go_at_call 37; (try simp only [i64_w, i32_w]); (with_reducible refine (pledgeref18_right.calls k _ _ l0_0 _ _ l0_1 a0_2 _ _ l1 false _ ?side1 ?side2 ?side3 ?side4 ?side5 ?side6 A3.out).mono ?_); (case side1 => exact zC HR0_0.out HB.out); (case side2 => exact HC0_0.out); (case side3 => exact zC HR0_1.out HB.out); (case side4 => exact HC0_1.out); (case side5 => exact zC HR1.out HB.out); (case side6 => exact HC1.out); rintro e w26 ⟨rfl, hb⟩; have n0_ := zBB BK214 hb; have n1_ := Aside0.mk (below_step (zH1 HB.out GE214.out) hb); clear BK214; clear HB; have BK214 := n0_; have HB := n1_; clear n0_ n1_; (try clear hb); (try clear hb2); (try clear hk); (try clear hi))); try go_wp2_with (first | ((with_reducible refine gate_dst (N := 2) rfl ?_); refine box_event ?hg (N := 2) ?hd (cs := #[.slice A0_0 l0_0.length c0_0, .slice A0_1 l0_1.length c0_1, .int .i64 a0_2]) (t := 45) ?hr ?_; (case hd => rfl); (case hg => rfl); (case hr => first | (go_simp; done) | (go_simp; rfl)); intro gb214 hg w24 hbox hb; have n0_ := Aside0.mk (below_step (zH HB.out) hb); have n1_ := Aside0.mk (hbox); have n2_ := Aside0.mk (zg hg (below_size (zH HB.out)) : w.heap.size ≤ gb214); have n3_ := Aside0.mk (zg hg (below_size (zH HB.out)) : w.heap.size ≤ gb214); clear HB; have HB := n0_; have BK214 := n1_; have GW214 := n2_; have GE214 := n3_; clear n0_ n1_ n2_ n3_; clear hb hbox hg; have hcz25_0 : w24.cell? ⟨gb214, 0, none⟩ = some (.slice A0_0 l0_0.length c0_0) := (blk_cell BK214.out 0).trans rfl; have hcz25_1 : w24.cell? ⟨gb214, 1, none⟩ = some (.slice A0_1 l0_1.length c0_1) := (blk_cell BK214.out 1).trans rfl; have hcz25_2 : w24.cell? ⟨gb214, 2, none⟩ = some (.int .i64 a0_2) := (blk_cell BK214.out 2).trans rfl; have hfz25_0 := blk_frozen BK214.out 0; have hfz25_1 := blk_frozen BK214.out 1; have hfz25_2 := blk_frozen BK214.out 2) | (go_at_call 37; (try simp only [i64_w, i32_w]); (with_reducible refine (pledgeref18_right.calls k _ _ l0_0 _ _ l0_1 a0_2 _ _ l1 false _ ?side1 ?side2 ?side3 ?side4 ?side5 ?side6 A3.out).mono ?_); (case side1 => exact zC HR0_0.out HB.out); (case side2 => exact HC0_0.out); (case side3 => exact zC HR0_1.out HB.out); (case side4 => exact HC0_1.out); (case side5 => exact zC HR1.out HB.out); (case side6 => exact HC1.out); rintro e w26 ⟨rfl, hb⟩; have n0_ := zBB BK214 hb; have n1_ := Aside0.mk (below_step (zH1 HB.out GE214.out) hb); clear BK214; clear HB; have BK214 := n0_; have HB := n1_; clear n0_ n1_; (try clear hb); (try clear hb2); (try clear hk); (try clear hi))))
  go_ret2
  exact ⟨zE, zH1 HB.out GE214.out⟩

/-! ### pledgeref18_Cost: function 21 -/
def pledgeref18_Cost.l0 : Nat → List Int → Int → Int → List (S25) → List Int → Int → Option (Int × Bool)
 | 0, _, _, _, _, _, _ => none
 | k + 1, x1, x6, x7, x223000, x223001, x223002 => if x7 < (x1.length : Int) then (if 0 ≤ x7 then (if x7 < (x223000.length : Int) then (pledgeref18_Cost.l0 k x1 (wrap64 (x6 + (wrap64 ((rd x1 x7) * ((rd_T25 x223000 x7).f2))))) (wrap64 (x7 + 1)) x223000 x223001 x223002) else (none)) else (none)) else (some (x6, true))
def pledgeref18_Cost.f (k : Nat) (l0_0 : List (S25)) (l0_1 : List Int) (a0_2 : Int) (l1 : List Int) : Option (Int × Bool) := (pledgeref18_right.f k l0_0 l0_1 a0_2 l1).bind fun t223 => (if t223 = true then (pledgeref18_Cost.l0 k l1 0 0 l0_0 l0_1 a0_2) else (some (0, false)))
theorem pledgeref18_Cost.mono_l : ∀ k, (∀ y0 y1 y2 y3 y4 y5, LeO (pledgeref18_Cost.l0 k y0 y1 y2 y3 y4 y5) (pledgeref18_Cost.l0 (k + 1) y0 y1 y2 y3 y4 y5))
 | 0 => fun _ _ _ _ _ _ r h => by simp [pledgeref18_Cost.l0] at h
 | k + 1 => by
  have ih0 := pledgeref18_Cost.mono_l k
  ·
   intro y0 y1 y2 y3 y4 y5; unfold pledgeref18_Cost.l0
   repeat' first
   | (with_reducible exact ih0 _ _ _ _ _ _)
   | (with_reducible exact pledgeref18_right.mono _ _ _ _ _)
   | (with_reducible exact LeO.refl _)
   | (with_reducible exact LeO.none _)
   | (with_reducible refine LeO.ite ?_ ?_)
   | (with_reducible refine LeO.bind ?_ (fun _ => ?_))
   | exact ih0 _ _ _ _ _ _
   | exact pledgeref18_right.mono _ _ _ _ _
   | exact LeO.none _
   | refine LeO.ite ?_ ?_
   | refine LeO.bind ?_ (fun _ => ?_)
theorem pledgeref18_Cost.mono : ∀ a0 a1 a2 a3 k, LeO (pledgeref18_Cost.f k a0 a1 a2 a3) (pledgeref18_Cost.f (k + 1) a0 a1 a2 a3) := by
 intro a0 a1 a2 a3 k; have ih0 := pledgeref18_Cost.mono_l k; unfold pledgeref18_Cost.f
 repeat' first
   | (with_reducible exact ih0 _ _ _ _ _ _)
   | (with_reducible exact pledgeref18_right.mono _ _ _ _ _)
   | (with_reducible exact LeO.refl _)
   | (with_reducible exact LeO.none _)
   | (with_reducible refine LeO.ite ?_ ?_)
   | (with_reducible refine LeO.bind ?_ (fun _ => ?_))
   | exact ih0 _ _ _ _ _ _
   | exact pledgeref18_right.mono _ _ _ _ _
   | exact LeO.none _
   | refine LeO.ite ?_ ?_
   | refine LeO.bind ?_ (fun _ => ?_)
set_option maxHeartbeats 8000000 in
set_option maxRecDepth 100000 in
theorem pledgeref18_Cost.calls [Inhabited (Int → Addr)] (k : Nat) (A0_0 : Option Addr) (c0_0 : Nat) (l0_0 : List (S25)) (A0_1 : Option Addr) (c0_1 : Nat) (l0_1 : List Int) (a0_2 : Int) (A1 : Option Addr) (c1 : Nat) (l1 : List Int) (r1 : Int) (r2 : Bool) (w : World) (hr0_0 : Kd.C k25 w A0_0 l0_0.length l0_0) (hc0_0 : l0_0.length ≤ c0_0) (hr0_1 : Kd.C (Kd.int .i64) w A0_1 l0_1.length l0_1) (hc0_1 : l0_1.length ≤ c0_1) (hr1 : Kd.C (Kd.int .i64) w A1 l1.length l1) (hc1 : l1.length ≤ c1) (h : pledgeref18_Cost.f k l0_0 l0_1 a0_2 l1 = some (r1, r2)) :
  Calls Tryd.prog 21 #[.agg #[.slice A0_0 l0_0.length c0_0, .slice A0_1 l0_1.length c0_1, .int .i64 a0_2], .slice A1 l1.length c1] w fun e w' => e = .returned (.tuple #[.int .i64 r1, .bool r2]) ∧ Below w.heap.size w w' := by
 have hu45 := Tryd.underlying45; have HR0_0 := Aside0.mk hr0_0; have HC0_0 := Aside0.mk hc0_0; clear hr0_0 hc0_0; have HR0_1 := Aside0.mk hr0_1; have HC0_1 := Aside0.mk hc0_1; clear hr0_1 hc0_1; have HR1 := Aside0.mk hr1; have HC1 := Aside0.mk hc1; clear hr1 hc1; have HB := Aside0.mk (Below.refl w.heap.size w); have H : ((pledgeref18_right.f k l0_0 l0_1 a0_2 l1).bind fun t223 => (if t223 = true then (pledgeref18_Cost.l0 k l1 0 0 l0_0 l0_1 a0_2) else (some (0, false)))) = some (r1, r2) := h; clear h; replace H := Option.bind_eq_some_iff.mp H; obtain ⟨t223, A30, H⟩ := H; replace H : (if t223 = true then (pledgeref18_Cost.l0 k l1 0 0 l0_0 l0_1 a0_2) else (some (0, false))) = some (r1, r2) := H; have A3 := Aside0.mk A30; clear A30; by_cases c4 : t223 = true
 ·
  subst c4; have H1 : (pledgeref18_Cost.l0 k l1 0 0 l0_0 l0_1 a0_2) = some (r1, r2) := by rw [if_pos rfl] at H; exact H
  clear H; have H := H1; clear H1; have H' := Aside0.mk H; clear H
  go_enter Tryd.func21, Tryd.ntmps21
  go_wp2_with (first | ((with_reducible refine gate_dst (N := 2) rfl ?_); refine box_event ?hg (N := 2) ?hd (cs := #[.slice A0_0 l0_0.length c0_0, .slice A0_1 l0_1.length c0_1, .int .i64 a0_2]) (t := 45) ?hr ?_; (case hd => rfl); (case hg => rfl); (case hr => first | (go_simp; done) | (go_simp; rfl)); intro gb222 hg w5 hbox hb; have n0_ := Aside0.mk (below_step (zH HB.out) hb); have n1_ := Aside0.mk (hbox); have n2_ := Aside0.mk (zg hg (below_size (zH HB.out)) : w.heap.size ≤ gb222); have n3_ := Aside0.mk (zg hg (below_size (zH HB.out)) : w.heap.size ≤ gb222); clear HB; have HB := n0_; have BK222 := n1_; have GW222 := n2_; have GE222 := n3_; clear n0_ n1_ n2_ n3_; clear hb hbox hg; have hcz6_0 : w5.cell? ⟨gb222, 0, none⟩ = some (.slice A0_0 l0_0.length c0_0) := (blk_cell BK222.out 0).trans rfl; have hcz6_1 : w5.cell? ⟨gb222, 1, none⟩ = some (.slice A0_1 l0_1.length c0_1) := (blk_cell BK222.out 1).trans rfl; have hcz6_2 : w5.cell? ⟨gb222, 2, none⟩ = some (.int .i64 a0_2) := (blk_cell BK222.out 2).trans rfl; have hfz6_0 := blk_frozen BK222.out 0; have hfz6_1 := blk_frozen BK222.out 1; have hfz6_2 := blk_frozen BK222.out 2) | (go_at_call 37; (with_reducible refine (pledgeref18_right.calls k _ _ l0_0 _ _ l0_1 a0_2 _ _ l1 true _ ?side1 ?side2 ?side3 ?side4 ?side5 ?side6 A3.out).mono ?_); (case side1 => exact zC HR0_0.out HB.out); (case side2 => exact HC0_0.out); (case side3 => exact zC HR0_1.out HB.out); (case side4 => exact HC0_1.out); (case side5 => exact zC HR1.out HB.out); (case side6 => exact HC1.out); rintro e w7 ⟨rfl, hb⟩; have n0_ := zBB BK222 hb; have n1_ := Aside0.mk (below_step (zH1 HB.out GE222.out) hb); clear BK222; clear HB; have BK222 := n0_; have HB := n1_; clear n0_ n1_; (try clear hb); (try clear hb2); (try clear hk); (try clear hi)))
  repeat (go_quiet (first | ((with_reducible refine gate_dst (N := 2) rfl ?_); refine box_event ?hg (N := 2) ?hd (cs := #[.slice A0_0 l0_0.length c0_0, .slice A0_1 l0_1.length c0_1, .int .i64 a0_2]) (t := 45) ?hr ?_; (case hd => rfl); (case hg => rfl); (case hr => first | (go_simp; done) | (go_simp; rfl)); intro gb222 hg w5 hbox hb; have n0_ := Aside0.mk (below_step (zH HB.out) hb); have n1_ := Aside0.mk (hbox); have n2_ := Aside0.mk (zg hg (below_size (zH HB.out)) : w.heap.size ≤ gb222); have n3_ := Aside0.mk (zg hg (below_size (zH HB.out)) : w.heap.size ≤ gb222); clear HB; have HB := n0_; have BK222 := n1_; have GW222 := n2_; have GE222 := n3_; clear n0_ n1_ n2_ n3_; clear hb hbox hg; have hcz6_0 : w5.cell? ⟨gb222, 0, none⟩ = some (.slice A0_0 l0_0.length c0_0) := (blk_cell BK222.out 0).trans rfl; have hcz6_1 : w5.cell? ⟨gb222, 1, none⟩ = some (.slice A0_1 l0_1.length c0_1) := (blk_cell BK222.out 1).trans rfl; have hcz6_2 : w5.cell? ⟨gb222, 2, none⟩ = some (.int .i64 a0_2) := (blk_cell BK222.out 2).trans rfl; have hfz6_0 := blk_frozen BK222.out 0; have hfz6_1 := blk_frozen BK222.out 1; have hfz6_2 := blk_frozen BK222.out 2) | (go_at_call 37; (try simp only [i64_w, i32_w]); (with_reducible refine (pledgeref18_right.calls k _ _ l0_0 _ _ l0_1 a0_2 _ _ l1 true _ ?side1 ?side2 ?side3 ?side4 ?side5 ?side6 A3.out).mono ?_); (case side1 => exact zC HR0_0.out HB.out); (case side2 => exact HC0_0.out); (case side3 => exact zC HR0_1.out HB.out); (case side4 => exact HC0_1.out); (case side5 => exact zC HR1.out HB.out); (case side6 => exact HC1.out); rintro e w7 ⟨rfl, hb⟩; have n0_ := zBB BK222 hb; have n1_ := Aside0.mk (below_step (zH1 HB.out GE222.out) hb); clear BK222; clear HB; have BK222 := n0_; have HB := n1_; clear n0_ n1_; (try clear hb); (try clear hb2); (try clear hk); (try clear hi))); try go_wp2_with (first | ((with_reducible refine gate_dst (N := 2) rfl ?_); refine box_event ?hg (N := 2) ?hd (cs := #[.slice A0_0 l0_0.length c0_0, .slice A0_1 l0_1.length c0_1, .int .i64 a0_2]) (t := 45) ?hr ?_; (case hd => rfl); (case hg => rfl); (case hr => first | (go_simp; done) | (go_simp; rfl)); intro gb222 hg w5 hbox hb; have n0_ := Aside0.mk (below_step (zH HB.out) hb); have n1_ := Aside0.mk (hbox); have n2_ := Aside0.mk (zg hg (below_size (zH HB.out)) : w.heap.size ≤ gb222); have n3_ := Aside0.mk (zg hg (below_size (zH HB.out)) : w.heap.size ≤ gb222); clear HB; have HB := n0_; have BK222 := n1_; have GW222 := n2_; have GE222 := n3_; clear n0_ n1_ n2_ n3_; clear hb hbox hg; have hcz6_0 : w5.cell? ⟨gb222, 0, none⟩ = some (.slice A0_0 l0_0.length c0_0) := (blk_cell BK222.out 0).trans rfl; have hcz6_1 : w5.cell? ⟨gb222, 1, none⟩ = some (.slice A0_1 l0_1.length c0_1) := (blk_cell BK222.out 1).trans rfl; have hcz6_2 : w5.cell? ⟨gb222, 2, none⟩ = some (.int .i64 a0_2) := (blk_cell BK222.out 2).trans rfl; have hfz6_0 := blk_frozen BK222.out 0; have hfz6_1 := blk_frozen BK222.out 1; have hfz6_2 := blk_frozen BK222.out 2) | (go_at_call 37; (try simp only [i64_w, i32_w]); (with_reducible refine (pledgeref18_right.calls k _ _ l0_0 _ _ l0_1 a0_2 _ _ l1 true _ ?side1 ?side2 ?side3 ?side4 ?side5 ?side6 A3.out).mono ?_); (case side1 => exact zC HR0_0.out HB.out); (case side2 => exact HC0_0.out); (case side3 => exact zC HR0_1.out HB.out); (case side4 => exact HC0_1.out); (case side5 => exact zC HR1.out HB.out); (case side6 => exact HC1.out); rintro e w7 ⟨rfl, hb⟩; have n0_ := zBB BK222 hb; have n1_ := Aside0.mk (below_step (zH1 HB.out GE222.out) hb); clear BK222; clear HB; have BK222 := n0_; have HB := n1_; clear n0_ n1_; (try clear hb); (try clear hb2); (try clear hk); (try clear hi))))
  go_loopg [6, 7] k (fun kq v6 v7 w' => ∃ (x6_1 : Int) (x7_1 : Int), v6 = .int .i64 x6_1 ∧ v7 = .int .i64 x7_1 ∧ Aside0 (pledgeref18_Cost.l0 kq l1 x6_1 x7_1 l0_0 l0_1 a0_2 = some (r1, r2)) ∧ Aside0 (kq ≤ k) ∧ Aside0 (w'.heap[gb222]? = some (.cells #[(.slice A0_0 l0_0.length c0_0), (.slice A0_1 l0_1.length c0_1), .int .i64 a0_2] 45 (0, 0))) ∧ Aside0 (Below w.heap.size w w'))
  case atStart => exact ⟨(0), (0), zS, zS, H', ⟨Nat.le_refl _⟩, ⟨zB BK222.out⟩, ⟨zH1 HB.out GE222.out⟩⟩
  case round =>
   clear H'
   try clear c1
   try clear c2
   try clear p2
   try clear c4
   try clear hcz6_0
   try clear hcz6_1
   try clear hcz6_2
   try clear hfz6_0
   try clear hfz6_1
   try clear hfz6_2
   obtain ⟨x6_1, x7_1, rfl, rfl, HA, HK1, BK222, HB⟩ := hrel
   cases gk with
   | zero => exact absurd HA.out (by simp [pledgeref18_Cost.l0])
   | succ k1 =>
    have H := HA.out; clear HA; simp only [pledgeref18_Cost.l0] at H; by_cases c8 : x7_1 < (l1.length : Int)
    ·
     rw [if_pos c8] at H; have c8b0 : decide (x7_1 < (l1.length : Int)) = true := decide_eq_true c8; clear c8; by_cases c9 : 0 ≤ x7_1
     ·
      rw [if_pos c9] at H; have c9b0 : decide (0 ≤ x7_1) = true := decide_eq_true c9; clear c9; by_cases c10 : x7_1 < (l0_0.length : Int)
      ·
       rw [if_pos c10] at H; have c10b0 : decide (x7_1 < (l0_0.length : Int)) = true := decide_eq_true c10; clear c10; have H' := Aside0.mk H; clear H; have p224 : 0 ≤ (x7_1 : Int) := of_decide_eq_true zA; have q224 : x7_1 < (l1.length : Int) := of_decide_eq_true zA; obtain ⟨ad224, e224, hx224_0⟩ := Kd.at_int HR1.out x7_1 p224 q224
       cases e224
       replace hx224_0 := (HB.out.cell (World.block_lt_of_cell? w _ hx224_0)).trans hx224_0; replace p224 := eq_true p224; replace q224 := eq_true q224; have hcz11_0 : wr.cell? ⟨gb222, 0, none⟩ = some (.slice A0_0 l0_0.length c0_0) := (blk_cell BK222.out 0).trans rfl; have hcz11_1 : wr.cell? ⟨gb222, 1, none⟩ = some (.slice A0_1 l0_1.length c0_1) := (blk_cell BK222.out 1).trans rfl; have hcz11_2 : wr.cell? ⟨gb222, 2, none⟩ = some (.int .i64 a0_2) := (blk_cell BK222.out 2).trans rfl; have hfz11_0 := blk_frozen BK222.out 0; have hfz11_1 := blk_frozen BK222.out 1; have hfz11_2 := blk_frozen BK222.out 2; have p225 : 0 ≤ (x7_1 : Int) := of_decide_eq_true zA; have q225 : x7_1 < (l0_0.length : Int) := of_decide_eq_true zA; obtain ⟨ad225, e225, hx225_0, hx225_1, hx225_2, hx225_3⟩ := at_T25 HR0_0.out x7_1 p225 q225
       cases e225
       replace hx225_0 := (HB.out.cell (World.block_lt_of_cell? w _ hx225_0)).trans hx225_0; replace hx225_1 := (HB.out.cell (World.block_lt_of_cell? w _ hx225_1)).trans hx225_1; replace hx225_2 := (HB.out.cell (World.block_lt_of_cell? w _ hx225_2)).trans hx225_2; replace hx225_3 := (HB.out.cell (World.block_lt_of_cell? w _ hx225_3)).trans hx225_3; replace p225 := eq_true p225; replace q225 := eq_true q225
       go_wp2
       repeat (go_quiet (fail); try go_wp2)
       go_roundg k1
       case measure => have := HK1.out; omega
       case rel => exact ⟨(wrap64 (x6_1 + (wrap64 ((rd l1 x7_1) * ((rd_T25 l0_0 x7_1).f2))))), (wrap64 (x7_1 + 1)), zS, zS, H', ⟨by have := HK1.out; omega⟩, ⟨zB BK222.out⟩, ⟨zH1 HB.out GE222.out⟩⟩
      ·
       rw [if_neg c10] at H; exact absurd H (by simp)
     ·
      rw [if_neg c9] at H; exact absurd H (by simp)
    ·
     rw [if_neg c8] at H; have c8b0 : decide (x7_1 < (l1.length : Int)) = false := decide_eq_false c8; clear c8; simp only [Option.some.injEq, Prod.mk.injEq] at H; obtain ⟨rfl, rfl⟩ := H
     go_wp2
     repeat (go_quiet (fail); try go_wp2)
     go_ret2
     exact ⟨zE, zH1 HB.out GE222.out⟩
 ·
  replace c4 := Bool.eq_false_iff.mpr c4; subst c4; have H1 : (some (0, false)) = some (r1, r2) := by rw [if_neg (show ¬ (false = true) by decide)] at H; exact H
  clear H; have H := H1; clear H1; simp only [Option.some.injEq, Prod.mk.injEq] at H; obtain ⟨rfl, rfl⟩ := H
  go_enter Tryd.func21, Tryd.ntmps21
  go_wp2_with (first | ((with_reducible refine gate_dst (N := 2) rfl ?_); refine box_event ?hg (N := 2) ?hd (cs := #[.slice A0_0 l0_0.length c0_0, .slice A0_1 l0_1.length c0_1, .int .i64 a0_2]) (t := 45) ?hr ?_; (case hd => rfl); (case hg => rfl); (case hr => first | (go_simp; done) | (go_simp; rfl)); intro gb222 hg w12 hbox hb; have n0_ := Aside0.mk (below_step (zH HB.out) hb); have n1_ := Aside0.mk (hbox); have n2_ := Aside0.mk (zg hg (below_size (zH HB.out)) : w.heap.size ≤ gb222); have n3_ := Aside0.mk (zg hg (below_size (zH HB.out)) : w.heap.size ≤ gb222); clear HB; have HB := n0_; have BK222 := n1_; have GW222 := n2_; have GE222 := n3_; clear n0_ n1_ n2_ n3_; clear hb hbox hg; have hcz13_0 : w12.cell? ⟨gb222, 0, none⟩ = some (.slice A0_0 l0_0.length c0_0) := (blk_cell BK222.out 0).trans rfl; have hcz13_1 : w12.cell? ⟨gb222, 1, none⟩ = some (.slice A0_1 l0_1.length c0_1) := (blk_cell BK222.out 1).trans rfl; have hcz13_2 : w12.cell? ⟨gb222, 2, none⟩ = some (.int .i64 a0_2) := (blk_cell BK222.out 2).trans rfl; have hfz13_0 := blk_frozen BK222.out 0; have hfz13_1 := blk_frozen BK222.out 1; have hfz13_2 := blk_frozen BK222.out 2) | (go_at_call 37; (with_reducible refine (pledgeref18_right.calls k _ _ l0_0 _ _ l0_1 a0_2 _ _ l1 false _ ?side1 ?side2 ?side3 ?side4 ?side5 ?side6 A3.out).mono ?_); (case side1 => exact zC HR0_0.out HB.out); (case side2 => exact HC0_0.out); (case side3 => exact zC HR0_1.out HB.out); (case side4 => exact HC0_1.out); (case side5 => exact zC HR1.out HB.out); (case side6 => exact HC1.out); rintro e w14 ⟨rfl, hb⟩; have n0_ := zBB BK222 hb; have n1_ := Aside0.mk (below_step (zH1 HB.out GE222.out) hb); clear BK222; clear HB; have BK222 := n0_; have HB := n1_; clear n0_ n1_; (try clear hb); (try clear hb2); (try clear hk); (try clear hi)))
  repeat (go_quiet (first | ((with_reducible refine gate_dst (N := 2) rfl ?_); refine box_event ?hg (N := 2) ?hd (cs := #[.slice A0_0 l0_0.length c0_0, .slice A0_1 l0_1.length c0_1, .int .i64 a0_2]) (t := 45) ?hr ?_; (case hd => rfl); (case hg => rfl); (case hr => first | (go_simp; done) | (go_simp; rfl)); intro gb222 hg w12 hbox hb; have n0_ := Aside0.mk (below_step (zH HB.out) hb); have n1_ := Aside0.mk (hbox); have n2_ := Aside0.mk (zg hg (below_size (zH HB.out)) : w.heap.size ≤ gb222); have n3_ := Aside0.mk (zg hg (below_size (zH HB.out)) : w.heap.size ≤ gb222); clear HB; have HB := n0_; have BK222 := n1_; have GW222 := n2_; have GE222 := n3_; clear n0_ n1_ n2_ n3_; clear hb hbox hg; have hcz13_0 : w12.cell? ⟨gb222, 0, none⟩ = some (.slice A0_0 l0_0.length c0_0) := (blk_cell BK222.out 0).trans rfl; have hcz13_1 : w12.cell? ⟨gb222, 1, none⟩ = some (.slice A0_1 l0_1.length c0_1) := (blk_cell BK222.out 1).trans rfl; have hcz13_2 : w12.cell? ⟨gb222, 2, none⟩ = some (.int .i64 a0_2) := (blk_cell BK222.out 2).trans rfl; have hfz13_0 := blk_frozen BK222.out 0; have hfz13_1 := blk_frozen BK222.out 1; have hfz13_2 := blk_frozen BK222.out 2) | (go_at_call 37; (try simp only [i64_w, i32_w]); (with_reducible refine (pledgeref18_right.calls k _ _ l0_0 _ _ l0_1 a0_2 _ _ l1 false _ ?side1 ?side2 ?side3 ?side4 ?side5 ?side6 A3.out).mono ?_); (case side1 => exact zC HR0_0.out HB.out); (case side2 => exact HC0_0.out); (case side3 => exact zC HR0_1.out HB.out); (case side4 => exact HC0_1.out); (case side5 => exact zC HR1.out HB.out); (case side6 => exact HC1.out); rintro e w14 ⟨rfl, hb⟩; have n0_ := zBB BK222 hb; have n1_ := Aside0.mk (below_step (zH1 HB.out GE222.out) hb); clear BK222; clear HB; have BK222 := n0_; have HB := n1_; clear n0_ n1_; (try clear hb); (try clear hb2); (try clear hk); (try clear hi))); try go_wp2_with (first | ((with_reducible refine gate_dst (N := 2) rfl ?_); refine box_event ?hg (N := 2) ?hd (cs := #[.slice A0_0 l0_0.length c0_0, .slice A0_1 l0_1.length c0_1, .int .i64 a0_2]) (t := 45) ?hr ?_; (case hd => rfl); (case hg => rfl); (case hr => first | (go_simp; done) | (go_simp; rfl)); intro gb222 hg w12 hbox hb; have n0_ := Aside0.mk (below_step (zH HB.out) hb); have n1_ := Aside0.mk (hbox); have n2_ := Aside0.mk (zg hg (below_size (zH HB.out)) : w.heap.size ≤ gb222); have n3_ := Aside0.mk (zg hg (below_size (zH HB.out)) : w.heap.size ≤ gb222); clear HB; have HB := n0_; have BK222 := n1_; have GW222 := n2_; have GE222 := n3_; clear n0_ n1_ n2_ n3_; clear hb hbox hg; have hcz13_0 : w12.cell? ⟨gb222, 0, none⟩ = some (.slice A0_0 l0_0.length c0_0) := (blk_cell BK222.out 0).trans rfl; have hcz13_1 : w12.cell? ⟨gb222, 1, none⟩ = some (.slice A0_1 l0_1.length c0_1) := (blk_cell BK222.out 1).trans rfl; have hcz13_2 : w12.cell? ⟨gb222, 2, none⟩ = some (.int .i64 a0_2) := (blk_cell BK222.out 2).trans rfl; have hfz13_0 := blk_frozen BK222.out 0; have hfz13_1 := blk_frozen BK222.out 1; have hfz13_2 := blk_frozen BK222.out 2) | (go_at_call 37; (try simp only [i64_w, i32_w]); (with_reducible refine (pledgeref18_right.calls k _ _ l0_0 _ _ l0_1 a0_2 _ _ l1 false _ ?side1 ?side2 ?side3 ?side4 ?side5 ?side6 A3.out).mono ?_); (case side1 => exact zC HR0_0.out HB.out); (case side2 => exact HC0_0.out); (case side3 => exact zC HR0_1.out HB.out); (case side4 => exact HC0_1.out); (case side5 => exact zC HR1.out HB.out); (case side6 => exact HC1.out); rintro e w14 ⟨rfl, hb⟩; have n0_ := zBB BK222 hb; have n1_ := Aside0.mk (below_step (zH1 HB.out GE222.out) hb); clear BK222; clear HB; have BK222 := n0_; have HB := n1_; clear n0_ n1_; (try clear hb); (try clear hb2); (try clear hk); (try clear hi))))
  go_ret2
  exact ⟨zE, zH1 HB.out GE222.out⟩

end Go.Proofs.YtlalofmilhakjaaDoor.ELotsSay
