/- The functions that the law comes to, as plain functions, and for each a proof that the Go code comes to just these answers. Written by a program of this claim. Conditions: each theorem bears its own. -/
import Derived.Test.YteooecifecaikaaDoorECertSaysx0
import Derived.Test.YteooecifecaikaaDoorECertSaysx4
import Derived.Test.YteooecifecaikaaDoorECertSaysx11
namespace Go.Proofs.YteooecifecaikaaDoor.ECertSays
open Go.RowKit Go.Proofs.YteooecifecaikaaDoorW.PrintWords Go.Proofs.YteooecifecaikaaDoorW.PrintLast Go.Proofs.YteooecifecaikaaDoorW.PrintMore Go.Proofs.YteooecifecaikaaDoorW.PrintOpen
attribute [local go_sem] max2_int min2_int max_two min_two max_three min_three max_four min_four   -- for this text's walks alone
set_option linter.unusedVariables false
set_option linter.unusedSimpArgs false

/-! ### pledgeref18_Rate: function 24 -/
mutual
def pledgeref18_Rate.j0 : Nat → Int → Bool → List (S47) → List Int → Int → Option (Int × Int × Bool)
 | 0, _, _, _, _, _ => none
 | k + 1, x1, x16, x294000, x294001, x294002 => if x16 = true then (some (0, 0, false)) else (pledgeref18_Rate.l0 k (-1) x1 x294000 x294001 x294002)
def pledgeref18_Rate.l0 : Nat → Int → Int → List (S47) → List Int → Int → Option (Int × Int × Bool)
 | 0, _, _, _, _, _ => none
 | k + 1, x7, x8, x294000, x294001, x294002 => if x8 < (x294000.length : Int) then (if 0 ≤ x8 then (if ((rd_T47 x294000 x8).f1) > 0 then (if ((rd_T47 x294000 x8).f0) > 0 then (if x7 < 0 then (pledgeref18_Rate.l0 k x8 (wrap64 (x8 + 1)) x294000 x294001 x294002) else (if 0 ≤ x7 then (if x7 < (x294000.length : Int) then ((pledgeref18_dearer.f k ((rd_T47 x294000 x7).f0) ((rd_T47 x294000 x7).f1) ((rd_T47 x294000 x7).f2) ((rd_T47 x294000 x7).f3) ((rd_T47 x294000 x8).f0) ((rd_T47 x294000 x8).f1) ((rd_T47 x294000 x8).f2) ((rd_T47 x294000 x8).f3)).bind fun t298 => (if t298 = true then (pledgeref18_Rate.l0 k x8 (wrap64 (x8 + 1)) x294000 x294001 x294002) else (pledgeref18_Rate.l0 k x7 (wrap64 (x8 + 1)) x294000 x294001 x294002))) else (none)) else (none))) else (pledgeref18_Rate.l0 k x7 (wrap64 (x8 + 1)) x294000 x294001 x294002)) else (pledgeref18_Rate.l0 k x7 (wrap64 (x8 + 1)) x294000 x294001 x294002)) else (none)) else (if x7 < 0 then (some (0, 0, false)) else (if 0 ≤ x7 then (if x7 < (x294000.length : Int) then (some ((rd_T47 x294000 x7).f2, (rd_T47 x294000 x7).f1, true)) else (none)) else (none)))
end
def pledgeref18_Rate.f (k : Nat) (l0_0 : List (S47)) (l0_1 : List Int) (a0_2 : Int) (a1 : Int) : Option (Int × Int × Bool) := (pledgeref18_Valid.f k l0_0 l0_1 a0_2).bind fun t294 => (if t294 = 0 then (pledgeref18_Rate.j0 k a1 (decide (a1 < 0)) l0_0 l0_1 a0_2) else (pledgeref18_Rate.j0 k a1 true l0_0 l0_1 a0_2))
theorem pledgeref18_Rate.mono_l : ∀ k, (∀ y0 y1 y2 y3 y4, LeO (pledgeref18_Rate.j0 k y0 y1 y2 y3 y4) (pledgeref18_Rate.j0 (k + 1) y0 y1 y2 y3 y4)) ∧ (∀ y0 y1 y2 y3 y4, LeO (pledgeref18_Rate.l0 k y0 y1 y2 y3 y4) (pledgeref18_Rate.l0 (k + 1) y0 y1 y2 y3 y4))
 | 0 => ⟨fun _ _ _ _ _ r h => by simp [pledgeref18_Rate.j0] at h, fun _ _ _ _ _ r h => by simp [pledgeref18_Rate.l0] at h⟩
 | k + 1 => by
  obtain ⟨ih0, ih1⟩ := pledgeref18_Rate.mono_l k; refine ⟨?_, ?_⟩
  ·
   intro y0 y1 y2 y3 y4; unfold pledgeref18_Rate.j0
   repeat' first
   | (with_reducible exact ih0 _ _ _ _ _)
   | (with_reducible exact ih1 _ _ _ _ _)
   | (with_reducible exact pledgeref18_Valid.mono _ _ _ _)
   | (with_reducible exact pledgeref18_dearer.mono _ _ _ _ _ _ _ _ _)
   | (with_reducible exact LeO.refl _)
   | (with_reducible exact LeO.none _)
   | (with_reducible refine LeO.ite ?_ ?_)
   | (with_reducible refine LeO.bind ?_ (fun _ => ?_))
   | exact ih0 _ _ _ _ _
   | exact ih1 _ _ _ _ _
   | exact pledgeref18_Valid.mono _ _ _ _
   | exact pledgeref18_dearer.mono _ _ _ _ _ _ _ _ _
   | exact LeO.none _
   | refine LeO.ite ?_ ?_
   | refine LeO.bind ?_ (fun _ => ?_)
  ·
   intro y0 y1 y2 y3 y4; unfold pledgeref18_Rate.l0
   repeat' first
   | (with_reducible exact ih0 _ _ _ _ _)
   | (with_reducible exact ih1 _ _ _ _ _)
   | (with_reducible exact pledgeref18_Valid.mono _ _ _ _)
   | (with_reducible exact pledgeref18_dearer.mono _ _ _ _ _ _ _ _ _)
   | (with_reducible exact LeO.refl _)
   | (with_reducible exact LeO.none _)
   | (with_reducible refine LeO.ite ?_ ?_)
   | (with_reducible refine LeO.bind ?_ (fun _ => ?_))
   | exact ih0 _ _ _ _ _
   | exact ih1 _ _ _ _ _
   | exact pledgeref18_Valid.mono _ _ _ _
   | exact pledgeref18_dearer.mono _ _ _ _ _ _ _ _ _
   | exact LeO.none _
   | refine LeO.ite ?_ ?_
   | refine LeO.bind ?_ (fun _ => ?_)
theorem pledgeref18_Rate.mono : ∀ a0 a1 a2 a3 k, LeO (pledgeref18_Rate.f k a0 a1 a2 a3) (pledgeref18_Rate.f (k + 1) a0 a1 a2 a3) := by
 intro a0 a1 a2 a3 k; obtain ⟨ih0, ih1⟩ := pledgeref18_Rate.mono_l k; unfold pledgeref18_Rate.f
 repeat' first
   | (with_reducible exact ih0 _ _ _ _ _)
   | (with_reducible exact ih1 _ _ _ _ _)
   | (with_reducible exact pledgeref18_Valid.mono _ _ _ _)
   | (with_reducible exact pledgeref18_dearer.mono _ _ _ _ _ _ _ _ _)
   | (with_reducible exact LeO.refl _)
   | (with_reducible exact LeO.none _)
   | (with_reducible refine LeO.ite ?_ ?_)
   | (with_reducible refine LeO.bind ?_ (fun _ => ?_))
   | exact ih0 _ _ _ _ _
   | exact ih1 _ _ _ _ _
   | exact pledgeref18_Valid.mono _ _ _ _
   | exact pledgeref18_dearer.mono _ _ _ _ _ _ _ _ _
   | exact LeO.none _
   | refine LeO.ite ?_ ?_
   | refine LeO.bind ?_ (fun _ => ?_)
def pledgeref18_Rate.T8 : Bool × List (List Nat × List Nat) := (true, [([], []), ([0], [0]), ([1], [1]), ([2], [2]), ([3], [3]), ([4, 3], [3, 4]), ([5, 3], [3, 5]), ([3, 6], [3, 6]), ([7, 3], [7]), ([8], [8]), ([9, 8], [8, 9]), ([10, 8, 8], [8, 10]), ([11], [11]), ([12, 11], [11, 12]), ([11], [11]), ([13, 14, 11], [11, 13, 14]), ([15, 11], [11, 15]), ([11], [11]), ([16, 17, 11, 11], [11, 16, 17]), ([11, 18, 8], [8, 11, 18]), ([8, 19], [8, 19])])
def pledgeref18_Rate.B8 : List Nat := [0, 1, 3, 7, 15, 31, 63, 127, 255, 511, 1023, 2047, 4095, 8191, 4095, 32767, 65535, 4095, 262143, 524287, 1048575]
theorem pledgeref18_Rate.tab8 : rtab .any (opsOf Tryd.f24 8) = pledgeref18_Rate.T8 := by kernel_rfl
theorem pledgeref18_Rate.bits8 : waitsOk pledgeref18_Rate.T8.2 pledgeref18_Rate.B8 = true := by kernel_rfl
def pledgeref18_Rate.T12 : Bool × List (List Nat × List Nat) := (true, [([], []), ([0], [0]), ([], []), ([1, 2], [1, 2]), ([3], [3]), ([4], [4]), ([], []), ([6], [6]), ([], []), ([7, 8], [7, 8]), ([9], [9]), ([10], [10]), ([5, 0, 1, 2, 3, 4, 5], [5]), ([11, 12, 0, 1, 2, 3, 4, 5, 6, 7, 8, 9, 10, 11, 12], [11]), ([13, 0, 1, 2, 3, 4, 5, 6, 7, 8, 9, 10, 11, 12, 13], [])])
def pledgeref18_Rate.B12 : List Nat := [0, 1, 0, 7, 15, 31, 0, 64, 0, 448, 960, 1984, 63, 8191, 16383]
theorem pledgeref18_Rate.tab12 : rtab .any (opsOf Tryd.f24 12) = pledgeref18_Rate.T12 := by kernel_rfl
theorem pledgeref18_Rate.bits12 : waitsOk pledgeref18_Rate.T12.2 pledgeref18_Rate.B12 = true := by kernel_rfl
abbrev zfe6f_m0 : Array Bool := (fun o i : Bool => #[o,o,o,o,o,o,o,o,o,o,o,o,o,o,o,o,o,o,o,o,o]) false true
abbrev zfe6f_m1 : Array Bool := (fun o i : Bool => #[i,o,o,o,o,o,o,o,o,o,o,o,o,o,o,o,o,o,o,o,o]) false true
abbrev zfe6f_m2 : Array Bool := (fun o i : Bool => #[i,i,o,o,o,o,o,o,o,o,o,o,o,o,o,o,o,o,o,o,o]) false true
abbrev zfe6f_m3 : Array Bool := (fun o i : Bool => #[i,i,i,o,o,o,o,o,o,o,o,o,o,o,o,o,o,o,o,o,o]) false true
abbrev zfe6f_m4 : Array Bool := (fun o i : Bool => #[i,i,i,i,o,o,o,o,o,o,o,o,o,o,o,o,o,o,o,o,o]) false true
abbrev zfe6f_m5 : Array Bool := (fun o i : Bool => #[i,i,i,i,i,o,o,o,o,o,o,o,o,o,o,o,o,o,o,o,o]) false true
abbrev zfe6f_m6 : Array Bool := (fun o i : Bool => #[i,i,i,i,i,i,o,o,o,o,o,o,o,o,o,o,o,o,o,o,o]) false true
abbrev zfe6f_m7 : Array Bool := (fun o i : Bool => #[i,i,i,i,i,i,i,o,o,o,o,o,o,o,o,o,o,o,o,o,o]) false true
abbrev zfe6f_m8 : Array Bool := (fun o i : Bool => #[i,i,i,i,i,i,i,i,o,o,o,o,o,o,o,o,o,o,o,o,o]) false true
abbrev zfe6f_m9 : Array Bool := (fun o i : Bool => #[i,i,i,i,i,i,i,i,i,o,o,o,o,o,o,o,o,o,o,o,o]) false true
abbrev zfe6f_m10 : Array Bool := (fun o i : Bool => #[i,i,i,i,i,i,i,i,i,i,o,o,o,o,o,o,o,o,o,o,o]) false true
abbrev zfe6f_m11 : Array Bool := (fun o i : Bool => #[i,i,i,i,i,i,i,i,i,i,i,o,o,o,o,o,o,o,o,o,o]) false true
abbrev zfe6f_m12 : Array Bool := (fun o i : Bool => #[i,i,i,i,i,i,i,i,i,i,i,i,o,o,o,o,o,o,o,o,o]) false true
abbrev zfe6f_m13 : Array Bool := (fun o i : Bool => #[i,i,i,i,i,i,i,i,i,i,i,i,i,o,o,o,o,o,o,o,o]) false true
abbrev zfe6f_m14 : Array Bool := (fun o i : Bool => #[i,i,i,i,i,i,i,i,i,i,i,i,i,i,o,o,o,o,o,o,o]) false true
abbrev zfe6f_m15 : Array Bool := (fun o i : Bool => #[i,i,i,i,i,i,i,i,i,i,i,i,i,i,i,o,o,o,o,o,o]) false true
abbrev zfe6f_m16 : Array Bool := (fun o i : Bool => #[i,i,i,i,i,i,i,i,i,i,i,i,i,i,i,i,o,o,o,o,o]) false true
abbrev zfe6f_m17 : Array Bool := (fun o i : Bool => #[i,i,i,i,i,i,i,i,i,i,i,i,i,i,i,i,i,o,o,o,o]) false true
abbrev zfe6f_m18 : Array Bool := (fun o i : Bool => #[i,i,i,i,i,i,i,i,i,i,i,i,i,i,i,i,i,i,o,o,o]) false true
abbrev zfe6f_m19 : Array Bool := (fun o i : Bool => #[i,i,i,i,i,i,i,i,i,i,i,i,i,i,i,i,i,i,i,o,o]) false true
abbrev zfe6f_m20 : Array Bool := (fun o i : Bool => #[i,i,i,i,i,i,i,i,i,i,i,i,i,i,i,i,i,i,i,i,o]) false true
abbrev zfe6f_m21 : Array Bool := (fun o i : Bool => #[i,i,i,i,i,i,i,i,i,i,i,i,i,i,i,i,i,i,i,i,i]) false true
abbrev zfe6f_m22 : Array Bool := (fun o i : Bool => #[i,i,i,i,i,i,i,i,i,i,i,i,i,o,i,o,o,o,o,o,o]) false true
abbrev zfe6f_m23 : Array Bool := (fun o i : Bool => #[o,o,o,o,o,o,o,o,o,o,o,o,o,o,o]) false true
abbrev zfe6f_m24 : Array Bool := (fun o i : Bool => #[i,o,o,o,o,o,o,o,o,o,o,o,o,o,o]) false true
abbrev zfe6f_m25 : Array Bool := (fun o i : Bool => #[i,o,i,o,o,o,o,o,o,o,o,o,o,o,o]) false true
abbrev zfe6f_m26 : Array Bool := (fun o i : Bool => #[i,o,i,o,o,o,i,o,o,o,o,o,o,o,o]) false true
abbrev zfe6f_m27 : Array Bool := (fun o i : Bool => #[i,o,i,o,o,o,i,o,i,o,o,o,o,o,o]) false true
abbrev zfe6f_m28 : Array Bool := (fun o i : Bool => #[i,i,i,o,o,o,i,o,i,o,o,o,o,o,o]) false true
abbrev zfe6f_m29 : Array Bool := (fun o i : Bool => #[i,i,i,i,o,o,i,o,i,o,o,o,o,o,o]) false true
abbrev zfe6f_m30 : Array Bool := (fun o i : Bool => #[i,i,i,i,i,o,i,o,i,o,o,o,o,o,o]) false true
abbrev zfe6f_m31 : Array Bool := (fun o i : Bool => #[i,i,i,i,i,i,i,o,i,o,o,o,o,o,o]) false true
abbrev zfe6f_m32 : Array Bool := (fun o i : Bool => #[i,i,i,i,i,i,i,o,i,o,o,o,i,o,o]) false true
abbrev zfe6f_m33 : Array Bool := (fun o i : Bool => #[i,i,i,i,i,i,i,i,i,o,o,o,i,o,o]) false true
abbrev zfe6f_m34 : Array Bool := (fun o i : Bool => #[i,i,i,i,i,i,i,i,i,i,o,o,i,o,o]) false true
abbrev zfe6f_m35 : Array Bool := (fun o i : Bool => #[i,i,i,i,i,i,i,i,i,i,i,o,i,o,o]) false true
abbrev zfe6f_m36 : Array Bool := (fun o i : Bool => #[i,i,i,i,i,i,i,i,i,i,i,i,i,o,o]) false true
abbrev zfe6f_m37 : Array Bool := (fun o i : Bool => #[i,i,i,i,i,i,i,i,i,i,i,i,i,i,o]) false true
abbrev zfe6f_m38 : Array Bool := (fun o i : Bool => #[i,i,i,i,i,i,i,i,i,i,i,i,i,i,i]) false true
set_option maxHeartbeats 8000000 in
set_option maxRecDepth 100000 in
theorem pledgeref18_Rate.calls [Inhabited (Int → Addr)] (k : Nat) (A0_0 : Option Addr) (c0_0 : Nat) (l0_0 : List (S47)) (A0_1 : Option Addr) (c0_1 : Nat) (l0_1 : List Int) (a0_2 : Int) (a1 : Int) (r1 : Int) (r2 : Int) (r3 : Bool) (w : World) (hr0_0 : Kd.C k47 w A0_0 l0_0.length l0_0) (hc0_0 : l0_0.length ≤ c0_0) (hr0_1 : Kd.C (Kd.int .i64) w A0_1 l0_1.length l0_1) (hc0_1 : l0_1.length ≤ c0_1) (h : pledgeref18_Rate.f k l0_0 l0_1 a0_2 a1 = some (r1, r2, r3)) :
  Calls Tryd.prog 24 #[.agg #[.slice A0_0 l0_0.length c0_0, .slice A0_1 l0_1.length c0_1, .int .i64 a0_2], .int .i64 a1] w fun e w' => e = .returned (.tuple #[.int .i64 r1, .int .i64 r2, .bool r3]) ∧ Below w.heap.size w w' := by
 have hu30 := Tryd.underlying30; have hu47 := Tryd.underlying47; have HR0_0 := Aside0.mk hr0_0; have HC0_0 := Aside0.mk hc0_0; clear hr0_0 hc0_0; have HR0_1 := Aside0.mk hr0_1; have HC0_1 := Aside0.mk hc0_1; clear hr0_1 hc0_1; have HB := Aside0.mk (Below.refl w.heap.size w); have H : ((pledgeref18_Valid.f k l0_0 l0_1 a0_2).bind fun t294 => (if t294 = 0 then (pledgeref18_Rate.j0 k a1 (decide (a1 < 0)) l0_0 l0_1 a0_2) else (pledgeref18_Rate.j0 k a1 true l0_0 l0_1 a0_2))) = some (r1, r2, r3) := h; clear h; have HC3 := Aside0.mk H; clear H
 go_enter Tryd.func24, Tryd.ntmps24
 go_upto_region 1 with (first | ((with_reducible refine gate_dst (N := 2) rfl ?_); refine box_event ?hg (N := 2) ?hd (cs := #[.slice A0_0 l0_0.length c0_0, .slice A0_1 l0_1.length c0_1, .int .i64 a0_2]) (t := 30) ?hr ?_; (case hd => rfl); (case hg => rfl); (case hr => first | (go_simp; done) | (go_simp; rfl)); intro gb293 hg w4 hbox hb; have n0_ := Aside0.mk (below_step (zH HB.out) hb); have n1_ := Aside0.mk (hbox); have n2_ := Aside0.mk (zg hg (below_size (zH HB.out)) : w.heap.size ≤ gb293); have n3_ := Aside0.mk (zg hg (below_size (zH HB.out)) : w.heap.size ≤ gb293); clear HB; have HB := n0_; have BK293 := n1_; have GW293 := n2_; have GE293 := n3_; clear n0_ n1_ n2_ n3_; clear hb hbox hg))
 (try simp only [Act.put, zq1, zq2, zq3])
 go_cut [16] (fun v16 wc => ∃ (kq : Nat) (x16_2 : Bool), v16 = .bool x16_2 ∧ Aside0 (pledgeref18_Rate.j0 kq a1 x16_2 l0_0 l0_1 a0_2 = some (r1, r2, r3)) ∧ Aside0 (kq ≤ k) ∧ Aside0 (wc.heap[gb293]? = some (.cells #[(.slice A0_0 l0_0.length c0_0), (.slice A0_1 l0_1.length c0_1), .int .i64 a0_2] 30 (0, 0))) ∧ Aside0 (Below w.heap.size w wc))
 case first =>
  have H := HC3.out; clear HC3; replace H := Option.bind_eq_some_iff.mp H; obtain ⟨t294, A50, H⟩ := H; replace H : (if t294 = 0 then (pledgeref18_Rate.j0 k a1 (decide (a1 < 0)) l0_0 l0_1 a0_2) else (pledgeref18_Rate.j0 k a1 true l0_0 l0_1 a0_2)) = some (r1, r2, r3) := H; have A5 := Aside0.mk A50; clear A50; by_cases c6 : t294 = 0
  ·
   rw [if_pos c6] at H; have c6b0 : (t294 == 0) = true := beq_iff_eq.mpr c6; have c6b1 : (t294 != 0) = false := bne_eq_false_iff_eq.mpr c6; clear c6
   (first | rw [c6b0] | (simp only [i64_w, i32_w]; rw [c6b0]) | skip)
   have H' := Aside0.mk H; clear H; have hcz7_0 : w4.cell? ⟨gb293, 0, none⟩ = some (.slice A0_0 l0_0.length c0_0) := (blk_cell BK293.out 0).trans rfl; have hcz7_1 : w4.cell? ⟨gb293, 1, none⟩ = some (.slice A0_1 l0_1.length c0_1) := (blk_cell BK293.out 1).trans rfl; have hcz7_2 : w4.cell? ⟨gb293, 2, none⟩ = some (.int .i64 a0_2) := (blk_cell BK293.out 2).trans rfl; have hfz7_0 := blk_frozen BK293.out 0; have hfz7_1 := blk_frozen BK293.out 1; have hfz7_2 := blk_frozen BK293.out 2
   go_wp2_with (first | ((with_reducible refine gate_callee (f := 6) rfl ?_); refine goesL_ (some 11) rfl rfl Tryd.func6 (by kernel_rfl) rfl #[.agg #[.slice A0_0 l0_0.length c0_0, .slice A0_1 l0_1.length c0_1, .int .i64 a0_2]] rfl zM ?_; (with_reducible refine (pledgeref18_Valid.calls k _ _ l0_0 _ _ l0_1 a0_2 t294 _ ?side1 ?side2 ?side3 ?side4 A5.out).mono ?_); (case side1 => exact zC HR0_0.out HB.out); (case side2 => exact HC0_0.out); (case side3 => exact zC HR0_1.out HB.out); (case side4 => exact HC0_1.out); rintro e w8 ⟨rfl, hb⟩; refine ⟨_, rfl, ?_⟩; have n0_ := zBB BK293 hb; have n1_ := Aside0.mk (below_step (zH1 HB.out GE293.out) hb); clear BK293; clear HB; have BK293 := n0_; have HB := n1_; clear n0_ n1_; (try clear hb); (try clear hb2); (try clear hk); (try clear hi)))
   go_meet
   case rel => exact ⟨_, (decide (a1 < 0)), zS, H', ⟨by first | omega | exact Nat.le_refl _⟩, ⟨zB BK293.out⟩, ⟨zH1 HB.out GE293.out⟩⟩
  ·
   rw [if_neg c6] at H; have c6b0 : (t294 == 0) = false := beq_eq_false_iff_ne.mpr c6; have c6b1 : (t294 != 0) = true := bne_iff_ne.mpr c6
   (first | rw [c6b0] | (simp only [i64_w, i32_w]; rw [c6b0]) | skip)
   have H' := Aside0.mk H; clear H; have hcz9_0 : w4.cell? ⟨gb293, 0, none⟩ = some (.slice A0_0 l0_0.length c0_0) := (blk_cell BK293.out 0).trans rfl; have hcz9_1 : w4.cell? ⟨gb293, 1, none⟩ = some (.slice A0_1 l0_1.length c0_1) := (blk_cell BK293.out 1).trans rfl; have hcz9_2 : w4.cell? ⟨gb293, 2, none⟩ = some (.int .i64 a0_2) := (blk_cell BK293.out 2).trans rfl; have hfz9_0 := blk_frozen BK293.out 0; have hfz9_1 := blk_frozen BK293.out 1; have hfz9_2 := blk_frozen BK293.out 2
   go_wp2_with (first | ((with_reducible refine gate_callee (f := 6) rfl ?_); refine goesL_ (some 11) rfl rfl Tryd.func6 (by kernel_rfl) rfl #[.agg #[.slice A0_0 l0_0.length c0_0, .slice A0_1 l0_1.length c0_1, .int .i64 a0_2]] rfl zM ?_; (with_reducible refine (pledgeref18_Valid.calls k _ _ l0_0 _ _ l0_1 a0_2 t294 _ ?side1 ?side2 ?side3 ?side4 A5.out).mono ?_); (case side1 => exact zC HR0_0.out HB.out); (case side2 => exact HC0_0.out); (case side3 => exact zC HR0_1.out HB.out); (case side4 => exact HC0_1.out); rintro e w10 ⟨rfl, hb⟩; refine ⟨_, rfl, ?_⟩; have n0_ := zBB BK293 hb; have n1_ := Aside0.mk (below_step (zH1 HB.out GE293.out) hb); clear BK293; clear HB; have BK293 := n0_; have HB := n1_; clear n0_ n1_; (try clear hb); (try clear hb2); (try clear hk); (try clear hi)))
   go_meet
   case rel => exact ⟨_, (true), zS, H', ⟨by first | omega | exact Nat.le_refl _⟩, ⟨zB BK293.out⟩, ⟨zH1 HB.out GE293.out⟩⟩
 case rest =>
  clear HC3
  try clear c2
  try clear p2
  try clear c6
  try clear c6b0
  try clear c6b1
  try clear hcz7_0
  try clear hcz7_1
  try clear hcz7_2
  try clear hcz9_0
  try clear hcz9_1
  try clear hcz9_2
  try clear hfz7_0
  try clear hfz7_1
  try clear hfz7_2
  try clear hfz9_0
  try clear hfz9_1
  try clear hfz9_2
  obtain ⟨kq, x16_2, rfl, HA, HJ2, BK293, HB⟩ := hcut
  cases kq with
  | zero => exact absurd HA.out (by simp [pledgeref18_Rate.j0])
  | succ kj2 =>
   have H := HA.out; clear HA; simp only [pledgeref18_Rate.j0] at H; by_cases c11 : x16_2 = true
   ·
    subst c11; have H1 : (some (0, 0, false)) = some (r1, r2, r3) := by rw [if_pos rfl] at H; exact H
    clear H; have H := H1; clear H1; simp only [Option.some.injEq, Prod.mk.injEq] at H; obtain ⟨rfl, rfl, rfl⟩ := H
    go_wp2
    go_ret3
    exact ⟨zE, zH1 HB.out GE293.out⟩
   ·
    replace c11 := Bool.eq_false_iff.mpr c11; subst c11; have H1 : (pledgeref18_Rate.l0 kj2 (-1) a1 l0_0 l0_1 a0_2) = some (r1, r2, r3) := by rw [if_neg (show ¬ (false = true) by decide)] at H; exact H
    clear H; have H := H1; clear H1; have H' := Aside0.mk H; clear H
    go_wp2
    go_loopg [7, 8] kj2 (fun kq v7 v8 w' => ∃ (x7_2 : Int) (x8_2 : Int), v7 = .int .i64 x7_2 ∧ v8 = .int .i64 x8_2 ∧ Aside0 (pledgeref18_Rate.l0 kq x7_2 x8_2 l0_0 l0_1 a0_2 = some (r1, r2, r3)) ∧ Aside0 (kq ≤ kj2) ∧ Aside0 (w'.heap[gb293]? = some (.cells #[(.slice A0_0 l0_0.length c0_0), (.slice A0_1 l0_1.length c0_1), .int .i64 a0_2] 30 (0, 0))) ∧ Aside0 (Below w.heap.size w w'))
    case atStart => exact ⟨((-1)), (a1), zS, zS, H', ⟨Nat.le_refl _⟩, ⟨zB BK293.out⟩, ⟨zH1 HB.out GE293.out⟩⟩
    case round =>
     clear H'
     try clear c1
     try clear c2
     try clear p2
     try clear c6
     try clear c6b0
     try clear c6b1
     try clear c11
     try clear hcz7_0
     try clear hcz7_1
     try clear hcz7_2
     try clear hcz9_0
     try clear hcz9_1
     try clear hcz9_2
     try clear hfz7_0
     try clear hfz7_1
     try clear hfz7_2
     try clear hfz9_0
     try clear hfz9_1
     try clear hfz9_2
     try clear p2
     obtain ⟨x7_2, x8_2, rfl, rfl, HA, HK2, BK293, HB⟩ := hrel
     cases gk with
     | zero => exact absurd HA.out (by simp [pledgeref18_Rate.l0])
     | succ k2 =>
      have H := HA.out; clear HA; simp only [pledgeref18_Rate.l0] at H; by_cases c12 : x8_2 < (l0_0.length : Int)
      ·
       rw [if_pos c12] at H; have c12b0 : decide (x8_2 < (l0_0.length : Int)) = true := decide_eq_true c12; clear c12; by_cases c13 : 0 ≤ x8_2
       ·
        rw [if_pos c13] at H; have c13b0 : decide (0 ≤ x8_2) = true := decide_eq_true c13; clear c13; by_cases c14 : ((rd_T47 l0_0 x8_2).f1) > 0
        ·
         rw [if_pos c14] at H; have c14b0 : decide (0 < ((rd_T47 l0_0 x8_2).f1)) = true := decide_eq_true c14; clear c14; by_cases c15 : ((rd_T47 l0_0 x8_2).f0) > 0
         ·
          rw [if_pos c15] at H; have c15b0 : decide (0 < ((rd_T47 l0_0 x8_2).f0)) = true := decide_eq_true c15; clear c15; by_cases c16 : x7_2 < 0
          ·
           rw [if_pos c16] at H; have c16b0 : decide (x7_2 < 0) = true := decide_eq_true c16; clear c16; have H' := Aside0.mk H; clear H; have hcz17_0 : wr.cell? ⟨gb293, 0, none⟩ = some (.slice A0_0 l0_0.length c0_0) := (blk_cell BK293.out 0).trans rfl; have hcz17_1 : wr.cell? ⟨gb293, 1, none⟩ = some (.slice A0_1 l0_1.length c0_1) := (blk_cell BK293.out 1).trans rfl; have hcz17_2 : wr.cell? ⟨gb293, 2, none⟩ = some (.int .i64 a0_2) := (blk_cell BK293.out 2).trans rfl; have hfz17_0 := blk_frozen BK293.out 0; have hfz17_1 := blk_frozen BK293.out 1; have hfz17_2 := blk_frozen BK293.out 2; have p295 : 0 ≤ (x8_2 : Int) := of_decide_eq_true zA; have q295 : x8_2 < (l0_0.length : Int) := of_decide_eq_true zA; obtain ⟨ad295, e295, hx295_0, hx295_1, hx295_2, hx295_3⟩ := at_T47 HR0_0.out x8_2 p295 q295
           cases e295
           replace hx295_0 := (HB.out.cell (World.block_lt_of_cell? w _ hx295_0)).trans hx295_0; replace hx295_1 := (HB.out.cell (World.block_lt_of_cell? w _ hx295_1)).trans hx295_1; replace hx295_2 := (HB.out.cell (World.block_lt_of_cell? w _ hx295_2)).trans hx295_2; replace hx295_3 := (HB.out.cell (World.block_lt_of_cell? w _ hx295_3)).trans hx295_3; replace p295 := eq_true p295; replace q295 := eq_true q295
           try go_wp2_with (first | ((with_reducible refine gate_dst (N := 9) rfl ?_); refine box_event ?hg (N := 9) ?hd (cs := #[.int .i64 0, .int .i64 0, .int .i64 0, .int .i64 0]) (t := 47) ?hr ?_; (case hd => rfl); (case hg => rfl); (case hr => first | (go_simp; done) | (go_simp; rfl)); intro gb296 hg w18 hbox hb; have n0_ := zBB BK293 hb; have n1_ := Aside0.mk (below_step (zH1 HB.out GE293.out) hb); have n2_ := Aside0.mk (hbox); have n3_ := Aside0.mk (zg hg (below_size (zH1 HB.out GE293.out)) : w.heap.size ≤ gb296); have n4_ := Aside0.mk (zg hg (below_size (zH1 HB.out GE293.out)) : w.heap.size ≤ gb296); have n5_ := Aside0.mk (zN hg BK293 : gb293 ≠ gb296); have n6_ := Aside0.mk (zO hg BK293 : gb296 ≠ gb293); clear BK293; clear HB; have BK293 := n0_; have HB := n1_; have BK296 := n2_; have GW296 := n3_; have GE296 := n4_; have NB293_296 := n5_; have NB296_293 := n6_; clear n0_ n1_ n2_ n3_ n4_ n5_ n6_; clear hb hbox hg; have hnb19 := NB296_293.out; have hnc19 := NB293_296.out; have hcz20_0 : w18.cell? ⟨gb296, 0, none⟩ = some (.int .i64 0) := (blk_cell BK296.out 0).trans rfl; have hcz20_1 : w18.cell? ⟨gb296, 1, none⟩ = some (.int .i64 0) := (blk_cell BK296.out 1).trans rfl; have hcz20_2 : w18.cell? ⟨gb296, 2, none⟩ = some (.int .i64 0) := (blk_cell BK296.out 2).trans rfl; have hcz20_3 : w18.cell? ⟨gb296, 3, none⟩ = some (.int .i64 0) := (blk_cell BK296.out 3).trans rfl; have hfz20_0 := blk_frozen BK296.out 0; have hfz20_1 := blk_frozen BK296.out 1; have hfz20_2 := blk_frozen BK296.out 2; have hfz20_3 := blk_frozen BK296.out 3))
           have n0_ : Aside0 (((((w18.setCell ⟨gb296, 0, none⟩ (.int .i64 ((rd_T47 l0_0 x8_2).f0))).setCell ⟨gb296, 1, none⟩ (.int .i64 ((rd_T47 l0_0 x8_2).f1))).setCell ⟨gb296, 2, none⟩ (.int .i64 ((rd_T47 l0_0 x8_2).f2))).setCell ⟨gb296, 3, none⟩ (.int .i64 ((rd_T47 l0_0 x8_2).f3))).heap[gb293]? = some (.cells #[.slice (some ad295) l0_0.length c0_0, .slice A0_1 l0_1.length c0_1, .int .i64 a0_2] 30 (0, 0))) := ⟨by (with_reducible repeat (first | refine blk_drewN ?_ _ | refine blk_drew ?_ | refine blk_alloc ?_ _ | refine blk_far ?_ NB293_296.out _)); exact BK293.out⟩; have n1_ : Aside0 (((((w18.setCell ⟨gb296, 0, none⟩ (.int .i64 ((rd_T47 l0_0 x8_2).f0))).setCell ⟨gb296, 1, none⟩ (.int .i64 ((rd_T47 l0_0 x8_2).f1))).setCell ⟨gb296, 2, none⟩ (.int .i64 ((rd_T47 l0_0 x8_2).f2))).setCell ⟨gb296, 3, none⟩ (.int .i64 ((rd_T47 l0_0 x8_2).f3))).heap[gb296]? = some (.cells #[.int .i64 ((rd_T47 l0_0 x8_2).f0), .int .i64 ((rd_T47 l0_0 x8_2).f1), .int .i64 ((rd_T47 l0_0 x8_2).f2), .int .i64 ((rd_T47 l0_0 x8_2).f3)] 47 (0, 0))) := ⟨by (with_reducible repeat (first | refine blk_drewN ?_ _ | refine blk_drew ?_ | refine blk_alloc ?_ _)); refine blk_put (cs := #[.int .i64 ((rd_T47 l0_0 x8_2).f0), .int .i64 ((rd_T47 l0_0 x8_2).f1), .int .i64 ((rd_T47 l0_0 x8_2).f2), .int .i64 0]) ?_ 3 _ rfl; (with_reducible repeat (first | refine blk_drewN ?_ _ | refine blk_drew ?_ | refine blk_alloc ?_ _)); refine blk_put (cs := #[.int .i64 ((rd_T47 l0_0 x8_2).f0), .int .i64 ((rd_T47 l0_0 x8_2).f1), .int .i64 0, .int .i64 0]) ?_ 2 _ rfl; (with_reducible repeat (first | refine blk_drewN ?_ _ | refine blk_drew ?_ | refine blk_alloc ?_ _)); refine blk_put (cs := #[.int .i64 ((rd_T47 l0_0 x8_2).f0), .int .i64 0, .int .i64 0, .int .i64 0]) ?_ 1 _ rfl; (with_reducible repeat (first | refine blk_drewN ?_ _ | refine blk_drew ?_ | refine blk_alloc ?_ _)); refine blk_put (cs := #[.int .i64 0, .int .i64 0, .int .i64 0, .int .i64 0]) ?_ 0 _ rfl; (with_reducible repeat (first | refine blk_drewN ?_ _ | refine blk_drew ?_ | refine blk_alloc ?_ _)); exact BK296.out⟩; have n2_ : Aside0 (Below w.heap.size w ((((w18.setCell ⟨gb296, 0, none⟩ (.int .i64 ((rd_T47 l0_0 x8_2).f0))).setCell ⟨gb296, 1, none⟩ (.int .i64 ((rd_T47 l0_0 x8_2).f1))).setCell ⟨gb296, 2, none⟩ (.int .i64 ((rd_T47 l0_0 x8_2).f2))).setCell ⟨gb296, 3, none⟩ (.int .i64 ((rd_T47 l0_0 x8_2).f3)))) := ⟨zH2 HB.out GE293.out GE296.out⟩; (try clear BK293); (try clear BK296); (try clear HB); generalize ((((w18.setCell ⟨gb296, 0, none⟩ (.int .i64 ((rd_T47 l0_0 x8_2).f0))).setCell ⟨gb296, 1, none⟩ (.int .i64 ((rd_T47 l0_0 x8_2).f1))).setCell ⟨gb296, 2, none⟩ (.int .i64 ((rd_T47 l0_0 x8_2).f2))).setCell ⟨gb296, 3, none⟩ (.int .i64 ((rd_T47 l0_0 x8_2).f3))) = w21 at n0_ n1_ n2_ ⊢; have BK293 := n0_; have BK296 := n1_; have HB := n2_; clear n0_ n1_ n2_; have n0_ := Aside0.mk (blk_drew BK293.out); have n1_ := Aside0.mk (blk_drew BK296.out); have n2_ := Aside0.mk (below_drew1 HB.out); clear BK293; clear BK296; clear HB; have BK293 := n0_; have BK296 := n1_; have HB := n2_; clear n0_ n1_ n2_; refine start_ (n := 21) (S := fun w' => w'.cell? ⟨gb296, 0, none⟩ = some (.int .i64 ((rd_T47 l0_0 x8_2).f0)) ∧ w'.cell? ⟨gb296, 1, none⟩ = some (.int .i64 ((rd_T47 l0_0 x8_2).f1)) ∧ w'.cell? ⟨gb296, 2, none⟩ = some (.int .i64 ((rd_T47 l0_0 x8_2).f2)) ∧ w'.cell? ⟨gb296, 3, none⟩ = some (.int .i64 ((rd_T47 l0_0 x8_2).f3))) (ds := []) zfe6f_m0 (by kernel_rfl) rfl rfl ⟨(blk_cell BK296.out 0).trans rfl, (blk_cell BK296.out 1).trans rfl, (blk_cell BK296.out 2).trans rfl, (blk_cell BK296.out 3).trans rfl⟩ (fun hHeld => ?_); refine with_tabW pledgeref18_Rate.tab8 pledgeref18_Rate.bits8 (fun HT_ HW_ => ?_); generalize w21.drew = w22 at BK293 BK296 HB hHeld ⊢; refine zU 0 30 zfe6f_m1 HT_ ?_; refine take_ (i := 1) (N := some 31) (v := ?_) (a' := ?_) zfe6f_m2 rfl rfl (take_ofW HT_.out HW_.out (by kernel_rfl)) (fun _ _ _ h => h) (Or.inl ⟨by rfl, ?_⟩) hHeld ?_ ?_; rotate_left
           ·
            rintro w' ⟨s0, s1, s2, s3⟩; go_simp
            with_reducible rfl
           rotate_left
           · simp only [Act.put, zq1, zq2, zq3, i64_w, i32_w]; rfl
           refine zU 2 32 zfe6f_m3 HT_ ?_; refine zU 3 33 zfe6f_m4 HT_ ?_; refine zU 4 34 zfe6f_m5 HT_ ?_; refine take_ (i := 5) (N := some 35) (v := ?_) (a' := ?_) zfe6f_m6 rfl rfl (take_ofW HT_.out HW_.out (by kernel_rfl)) (fun _ _ _ h => h) (Or.inl ⟨by rfl, ?_⟩) hHeld ?_ ?_; rotate_left
           ·
            rintro w' ⟨s0, s1, s2, s3⟩; go_simp
            with_reducible rfl
           rotate_left
           · simp only [Act.put, zq1, zq2, zq3, i64_w, i32_w]; rfl
           refine zU 6 36 zfe6f_m7 HT_ ?_; refine zU 7 37 zfe6f_m8 HT_ ?_; refine zU 8 38 zfe6f_m9 HT_ ?_; refine zU 9 39 zfe6f_m10 HT_ ?_; refine zU 10 40 zfe6f_m11 HT_ ?_; refine zU 11 41 zfe6f_m12 HT_ ?_; refine zV 12 42 zfe6f_m13 HT_ ?_; refine zV 13 43 zfe6f_m14 HT_ ?_; refine zV 14 44 zfe6f_m15 HT_ ?_; refine zV 15 45 zfe6f_m16 HT_ ?_; refine zV 16 46 zfe6f_m17 HT_ ?_; refine zV 17 47 zfe6f_m18 HT_ ?_; refine zV 18 48 zfe6f_m19 HT_ ?_; refine zU 19 49 zfe6f_m20 HT_ ?_; refine zU 20 50 zfe6f_m21 HT_ ?_; refine done_ (done_of HT_.out (by kernel_rfl)) ?_
           try go_wp2
           go_roundg k2
           case measure => have := HJ2.out; have := HK2.out; omega
           case rel => exact ⟨(x8_2), (wrap64 (x8_2 + 1)), zS, zS, H', ⟨by have := HJ2.out; have := HK2.out; omega⟩, ⟨zB BK293.out⟩, ⟨zH2 HB.out GE293.out GE296.out⟩⟩
          ·
           rw [if_neg c16] at H; have c16b0 : decide (x7_2 < 0) = false := decide_eq_false c16; clear c16; by_cases c23 : 0 ≤ x7_2
           ·
            rw [if_pos c23] at H; have c23b0 : decide (0 ≤ x7_2) = true := decide_eq_true c23; clear c23; by_cases c24 : x7_2 < (l0_0.length : Int)
            ·
             rw [if_pos c24] at H; have c24b0 : decide (x7_2 < (l0_0.length : Int)) = true := decide_eq_true c24; clear c24; replace H := Option.bind_eq_some_iff.mp H; obtain ⟨t298, A250, H⟩ := H; replace H : (if t298 = true then (pledgeref18_Rate.l0 k2 x8_2 (wrap64 (x8_2 + 1)) l0_0 l0_1 a0_2) else (pledgeref18_Rate.l0 k2 x7_2 (wrap64 (x8_2 + 1)) l0_0 l0_1 a0_2)) = some (r1, r2, r3) := H; have A25 := Aside0.mk A250; clear A250; by_cases c26 : t298 = true
             ·
              subst c26; have H1 : (pledgeref18_Rate.l0 k2 x8_2 (wrap64 (x8_2 + 1)) l0_0 l0_1 a0_2) = some (r1, r2, r3) := by rw [if_pos rfl] at H; exact H
              clear H; have H := H1; clear H1; have H' := Aside0.mk H; clear H; have hcz27_0 : wr.cell? ⟨gb293, 0, none⟩ = some (.slice A0_0 l0_0.length c0_0) := (blk_cell BK293.out 0).trans rfl; have hcz27_1 : wr.cell? ⟨gb293, 1, none⟩ = some (.slice A0_1 l0_1.length c0_1) := (blk_cell BK293.out 1).trans rfl; have hcz27_2 : wr.cell? ⟨gb293, 2, none⟩ = some (.int .i64 a0_2) := (blk_cell BK293.out 2).trans rfl; have hfz27_0 := blk_frozen BK293.out 0; have hfz27_1 := blk_frozen BK293.out 1; have hfz27_2 := blk_frozen BK293.out 2; have p295 : 0 ≤ (x8_2 : Int) := of_decide_eq_true zA; have q295 : x8_2 < (l0_0.length : Int) := of_decide_eq_true zA; obtain ⟨ad295, e295, hx295_0, hx295_1, hx295_2, hx295_3⟩ := at_T47 HR0_0.out x8_2 p295 q295
              cases e295
              replace hx295_0 := (HB.out.cell (World.block_lt_of_cell? w _ hx295_0)).trans hx295_0; replace hx295_1 := (HB.out.cell (World.block_lt_of_cell? w _ hx295_1)).trans hx295_1; replace hx295_2 := (HB.out.cell (World.block_lt_of_cell? w _ hx295_2)).trans hx295_2; replace hx295_3 := (HB.out.cell (World.block_lt_of_cell? w _ hx295_3)).trans hx295_3; replace p295 := eq_true p295; replace q295 := eq_true q295
              try go_wp2_with (first | ((with_reducible refine gate_dst (N := 9) rfl ?_); refine box_event ?hg (N := 9) ?hd (cs := #[.int .i64 0, .int .i64 0, .int .i64 0, .int .i64 0]) (t := 47) ?hr ?_; (case hd => rfl); (case hg => rfl); (case hr => first | (go_simp; done) | (go_simp; rfl)); intro gb296 hg w28 hbox hb; have n0_ := zBB BK293 hb; have n1_ := Aside0.mk (below_step (zH1 HB.out GE293.out) hb); have n2_ := Aside0.mk (hbox); have n3_ := Aside0.mk (zg hg (below_size (zH1 HB.out GE293.out)) : w.heap.size ≤ gb296); have n4_ := Aside0.mk (zg hg (below_size (zH1 HB.out GE293.out)) : w.heap.size ≤ gb296); have n5_ := Aside0.mk (zN hg BK293 : gb293 ≠ gb296); have n6_ := Aside0.mk (zO hg BK293 : gb296 ≠ gb293); clear BK293; clear HB; have BK293 := n0_; have HB := n1_; have BK296 := n2_; have GW296 := n3_; have GE296 := n4_; have NB293_296 := n5_; have NB296_293 := n6_; clear n0_ n1_ n2_ n3_ n4_ n5_ n6_; clear hb hbox hg; have hnb29 := NB296_293.out; have hnc29 := NB293_296.out; have hcz30_0 : w28.cell? ⟨gb296, 0, none⟩ = some (.int .i64 0) := (blk_cell BK296.out 0).trans rfl; have hcz30_1 : w28.cell? ⟨gb296, 1, none⟩ = some (.int .i64 0) := (blk_cell BK296.out 1).trans rfl; have hcz30_2 : w28.cell? ⟨gb296, 2, none⟩ = some (.int .i64 0) := (blk_cell BK296.out 2).trans rfl; have hcz30_3 : w28.cell? ⟨gb296, 3, none⟩ = some (.int .i64 0) := (blk_cell BK296.out 3).trans rfl; have hfz30_0 := blk_frozen BK296.out 0; have hfz30_1 := blk_frozen BK296.out 1; have hfz30_2 := blk_frozen BK296.out 2; have hfz30_3 := blk_frozen BK296.out 3))
              have n0_ : Aside0 (((((w28.setCell ⟨gb296, 0, none⟩ (.int .i64 ((rd_T47 l0_0 x8_2).f0))).setCell ⟨gb296, 1, none⟩ (.int .i64 ((rd_T47 l0_0 x8_2).f1))).setCell ⟨gb296, 2, none⟩ (.int .i64 ((rd_T47 l0_0 x8_2).f2))).setCell ⟨gb296, 3, none⟩ (.int .i64 ((rd_T47 l0_0 x8_2).f3))).heap[gb293]? = some (.cells #[.slice (some ad295) l0_0.length c0_0, .slice A0_1 l0_1.length c0_1, .int .i64 a0_2] 30 (0, 0))) := ⟨by (with_reducible repeat (first | refine blk_drewN ?_ _ | refine blk_drew ?_ | refine blk_alloc ?_ _ | refine blk_far ?_ NB293_296.out _)); exact BK293.out⟩; have n1_ : Aside0 (((((w28.setCell ⟨gb296, 0, none⟩ (.int .i64 ((rd_T47 l0_0 x8_2).f0))).setCell ⟨gb296, 1, none⟩ (.int .i64 ((rd_T47 l0_0 x8_2).f1))).setCell ⟨gb296, 2, none⟩ (.int .i64 ((rd_T47 l0_0 x8_2).f2))).setCell ⟨gb296, 3, none⟩ (.int .i64 ((rd_T47 l0_0 x8_2).f3))).heap[gb296]? = some (.cells #[.int .i64 ((rd_T47 l0_0 x8_2).f0), .int .i64 ((rd_T47 l0_0 x8_2).f1), .int .i64 ((rd_T47 l0_0 x8_2).f2), .int .i64 ((rd_T47 l0_0 x8_2).f3)] 47 (0, 0))) := ⟨by (with_reducible repeat (first | refine blk_drewN ?_ _ | refine blk_drew ?_ | refine blk_alloc ?_ _)); refine blk_put (cs := #[.int .i64 ((rd_T47 l0_0 x8_2).f0), .int .i64 ((rd_T47 l0_0 x8_2).f1), .int .i64 ((rd_T47 l0_0 x8_2).f2), .int .i64 0]) ?_ 3 _ rfl; (with_reducible repeat (first | refine blk_drewN ?_ _ | refine blk_drew ?_ | refine blk_alloc ?_ _)); refine blk_put (cs := #[.int .i64 ((rd_T47 l0_0 x8_2).f0), .int .i64 ((rd_T47 l0_0 x8_2).f1), .int .i64 0, .int .i64 0]) ?_ 2 _ rfl; (with_reducible repeat (first | refine blk_drewN ?_ _ | refine blk_drew ?_ | refine blk_alloc ?_ _)); refine blk_put (cs := #[.int .i64 ((rd_T47 l0_0 x8_2).f0), .int .i64 0, .int .i64 0, .int .i64 0]) ?_ 1 _ rfl; (with_reducible repeat (first | refine blk_drewN ?_ _ | refine blk_drew ?_ | refine blk_alloc ?_ _)); refine blk_put (cs := #[.int .i64 0, .int .i64 0, .int .i64 0, .int .i64 0]) ?_ 0 _ rfl; (with_reducible repeat (first | refine blk_drewN ?_ _ | refine blk_drew ?_ | refine blk_alloc ?_ _)); exact BK296.out⟩; have n2_ : Aside0 (Below w.heap.size w ((((w28.setCell ⟨gb296, 0, none⟩ (.int .i64 ((rd_T47 l0_0 x8_2).f0))).setCell ⟨gb296, 1, none⟩ (.int .i64 ((rd_T47 l0_0 x8_2).f1))).setCell ⟨gb296, 2, none⟩ (.int .i64 ((rd_T47 l0_0 x8_2).f2))).setCell ⟨gb296, 3, none⟩ (.int .i64 ((rd_T47 l0_0 x8_2).f3)))) := ⟨zH2 HB.out GE293.out GE296.out⟩; (try clear BK293); (try clear BK296); (try clear HB); generalize ((((w28.setCell ⟨gb296, 0, none⟩ (.int .i64 ((rd_T47 l0_0 x8_2).f0))).setCell ⟨gb296, 1, none⟩ (.int .i64 ((rd_T47 l0_0 x8_2).f1))).setCell ⟨gb296, 2, none⟩ (.int .i64 ((rd_T47 l0_0 x8_2).f2))).setCell ⟨gb296, 3, none⟩ (.int .i64 ((rd_T47 l0_0 x8_2).f3))) = w31 at n0_ n1_ n2_ ⊢; have BK293 := n0_; have BK296 := n1_; have HB := n2_; clear n0_ n1_ n2_; have n0_ := Aside0.mk (blk_drew BK293.out); have n1_ := Aside0.mk (blk_drew BK296.out); have n2_ := Aside0.mk (below_drew1 HB.out); clear BK293; clear BK296; clear HB; have BK293 := n0_; have BK296 := n1_; have HB := n2_; clear n0_ n1_ n2_; have p297 : 0 ≤ (x7_2 : Int) := of_decide_eq_true zA; have q297 : x7_2 < (l0_0.length : Int) := of_decide_eq_true zA; obtain ⟨ad297, e297, hx297_0, hx297_1, hx297_2, hx297_3⟩ := at_T47 HR0_0.out x7_2 p297 q297; have hw297_3 := hx297_3; have hw297_2 := hx297_2; have hw297_1 := hx297_1; have hw297_0 := hx297_0; obtain rfl : ad295 = ad297 := (by injection e297); replace hx297_0 := (HB.out.cell (World.block_lt_of_cell? w _ hx297_0)).trans hx297_0; replace hx297_1 := (HB.out.cell (World.block_lt_of_cell? w _ hx297_1)).trans hx297_1; replace hx297_2 := (HB.out.cell (World.block_lt_of_cell? w _ hx297_2)).trans hx297_2; replace hx297_3 := (HB.out.cell (World.block_lt_of_cell? w _ hx297_3)).trans hx297_3; replace p297 := eq_true p297; replace q297 := eq_true q297; refine start_ (n := 21) (S := fun w' => w'.cell? ⟨gb296, 0, none⟩ = some (.int .i64 ((rd_T47 l0_0 x8_2).f0)) ∧ w'.cell? ⟨gb296, 1, none⟩ = some (.int .i64 ((rd_T47 l0_0 x8_2).f1)) ∧ w'.cell? ⟨gb296, 2, none⟩ = some (.int .i64 ((rd_T47 l0_0 x8_2).f2)) ∧ w'.cell? ⟨gb296, 3, none⟩ = some (.int .i64 ((rd_T47 l0_0 x8_2).f3)) ∧ w'.cell? ⟨gb293, 0, none⟩ = some (.slice (some ad295) l0_0.length c0_0) ∧ w'.cell? ⟨gb293, 1, none⟩ = some (.slice A0_1 l0_1.length c0_1) ∧ w'.cell? ⟨gb293, 2, none⟩ = some (.int .i64 a0_2) ∧ w'.cell? (ad295.add ((x7_2).toNat * 4)) = some (.int .i64 ((rd_T47 l0_0 x7_2).f0)) ∧ w'.cell? ⟨(ad295.add ((x7_2).toNat * 4)).block, (ad295.add ((x7_2).toNat * 4)).off + 1, none⟩ = some (.int .i64 ((rd_T47 l0_0 x7_2).f1)) ∧ w'.cell? ⟨(ad295.add ((x7_2).toNat * 4)).block, (ad295.add ((x7_2).toNat * 4)).off + 2, none⟩ = some (.int .i64 ((rd_T47 l0_0 x7_2).f2)) ∧ w'.cell? ⟨(ad295.add ((x7_2).toNat * 4)).block, (ad295.add ((x7_2).toNat * 4)).off + 3, none⟩ = some (.int .i64 ((rd_T47 l0_0 x7_2).f3))) (ds := []) zfe6f_m0 (by kernel_rfl) rfl rfl ⟨(blk_cell BK296.out 0).trans rfl, (blk_cell BK296.out 1).trans rfl, (blk_cell BK296.out 2).trans rfl, (blk_cell BK296.out 3).trans rfl, (blk_cell BK293.out 0).trans rfl, (blk_cell BK293.out 1).trans rfl, (blk_cell BK293.out 2).trans rfl, ((HB.out.cell (World.block_lt_of_cell? w _ hw297_0)).trans hw297_0), ((HB.out.cell (World.block_lt_of_cell? w _ hw297_1)).trans hw297_1), ((HB.out.cell (World.block_lt_of_cell? w _ hw297_2)).trans hw297_2), ((HB.out.cell (World.block_lt_of_cell? w _ hw297_3)).trans hw297_3)⟩ (fun hHeld => ?_); refine with_tabW pledgeref18_Rate.tab8 pledgeref18_Rate.bits8 (fun HT_ HW_ => ?_); generalize w31.drew = w32 at BK293 BK296 HB hx297_0 hx297_1 hx297_2 hx297_3 hHeld ⊢; refine zU 0 30 zfe6f_m1 HT_ ?_; refine take_ (i := 1) (N := some 31) (v := ?_) (a' := ?_) zfe6f_m2 rfl rfl (take_ofW HT_.out HW_.out (by kernel_rfl)) (fun _ _ _ h => h) (Or.inl ⟨by rfl, ?_⟩) hHeld ?_ ?_; rotate_left
              ·
               rintro w' ⟨s0, s1, s2, s3, s4, s5, s6, s7, s8, s9, s10⟩; go_simp
               with_reducible rfl
              rotate_left
              · simp only [Act.put, zq1, zq2, zq3, i64_w, i32_w]; rfl
              refine zU 2 32 zfe6f_m3 HT_ ?_; refine zU 3 33 zfe6f_m4 HT_ ?_; refine zU 4 34 zfe6f_m5 HT_ ?_; refine take_ (i := 5) (N := some 35) (v := ?_) (a' := ?_) zfe6f_m6 rfl rfl (take_ofW HT_.out HW_.out (by kernel_rfl)) (fun _ _ _ h => h) (Or.inl ⟨by rfl, ?_⟩) hHeld ?_ ?_; rotate_left
              ·
               rintro w' ⟨s0, s1, s2, s3, s4, s5, s6, s7, s8, s9, s10⟩; go_simp
               with_reducible rfl
              rotate_left
              · simp only [Act.put, zq1, zq2, zq3, i64_w, i32_w]; rfl
              refine zU 6 36 zfe6f_m7 HT_ ?_; refine zU 7 37 zfe6f_m8 HT_ ?_; refine zU 8 38 zfe6f_m9 HT_ ?_; refine zU 9 39 zfe6f_m10 HT_ ?_; refine zU 10 40 zfe6f_m11 HT_ ?_; refine zU 11 41 zfe6f_m12 HT_ ?_; refine zU 12 42 zfe6f_m13 HT_ ?_; refine zU 14 44 zfe6f_m22 HT_ ?_; refine take_ (i := 13) (N := some 43) (v := ?_) (a' := ?_) zfe6f_m15 rfl rfl (take_ofW HT_.out HW_.out (by kernel_rfl)) (fun _ _ _ h => h) (Or.inl ⟨by rfl, ?_⟩) hHeld ?_ ?_; rotate_left
              ·
               rintro w' ⟨s0, s1, s2, s3, s4, s5, s6, s7, s8, s9, s10⟩; go_simp
               with_reducible rfl
              rotate_left
              · simp only [Act.put, zq1, zq2, zq3, i64_w, i32_w]; rfl
              refine zU 15 45 zfe6f_m16 HT_ ?_; refine take_ (i := 16) (N := some 46) (v := ?_) (a' := ?_) zfe6f_m17 rfl rfl (take_ofW HT_.out HW_.out (by kernel_rfl)) (fun _ _ _ h => h) (Or.inl ⟨by rfl, ?_⟩) hHeld ?_ ?_; rotate_left
              ·
               rintro w' ⟨s0, s1, s2, s3, s4, s5, s6, s7, s8, s9, s10⟩; go_simp
               with_reducible rfl
              rotate_left
              · simp only [Act.put, zq1, zq2, zq3, i64_w, i32_w]; rfl
              refine take_ (i := 17) (N := some 47) (v := ?_) (a' := ?_) zfe6f_m18 rfl rfl (take_ofW HT_.out HW_.out (by kernel_rfl)) (fun _ _ _ h => h) (Or.inl ⟨by rfl, ?_⟩) hHeld ?_ ?_; rotate_left
              ·
               rintro w' ⟨s0, s1, s2, s3, s4, s5, s6, s7, s8, s9, s10⟩; go_simp
               with_reducible rfl
              rotate_left
              · simp only [Act.put, zq1, zq2, zq3, i64_w, i32_w]; rfl
              refine one_ (i := 18) (N := some 48) zfe6f_m19 rfl rfl (one_of HT_.out (by kernel_rfl)) (by decide) (fun K hK => ?_); refine goes_ Tryd.func41 (by kernel_rfl) rfl #[.agg #[.int .i64 ((rd_T47 l0_0 x7_2).f0), .int .i64 ((rd_T47 l0_0 x7_2).f1), .int .i64 ((rd_T47 l0_0 x7_2).f2), .int .i64 ((rd_T47 l0_0 x7_2).f3)], .agg #[.int .i64 ((rd_T47 l0_0 x8_2).f0), .int .i64 ((rd_T47 l0_0 x8_2).f1), .int .i64 ((rd_T47 l0_0 x8_2).f2), .int .i64 ((rd_T47 l0_0 x8_2).f3)]] (by rfl) rfl rfl zM ?_
              with_reducible refine (pledgeref18_dearer.calls k2 ((rd_T47 l0_0 x7_2).f0) ((rd_T47 l0_0 x7_2).f1) ((rd_T47 l0_0 x7_2).f2) ((rd_T47 l0_0 x7_2).f3) ((rd_T47 l0_0 x8_2).f0) ((rd_T47 l0_0 x8_2).f1) ((rd_T47 l0_0 x8_2).f2) ((rd_T47 l0_0 x8_2).f3) true _ A25.out).mono ?_
              rintro e w33 ⟨rfl, hb⟩; refine ⟨_, rfl, ?_⟩; have n0_ := zBB BK293 hb; have n1_ := zBB BK296 hb; have n2_ := Aside0.mk (below_step (zH2 HB.out GE293.out GE296.out) hb); clear BK293; clear BK296; clear HB; have BK293 := n0_; have BK296 := n1_; have HB := n2_; clear n0_ n1_ n2_; (try clear hb); (try clear hb2); (try clear hk); (try clear hi); refine hK.out _ _ ⟨(blk_cell BK296.out 0).trans rfl, (blk_cell BK296.out 1).trans rfl, (blk_cell BK296.out 2).trans rfl, (blk_cell BK296.out 3).trans rfl, (blk_cell BK293.out 0).trans rfl, (blk_cell BK293.out 1).trans rfl, (blk_cell BK293.out 2).trans rfl, ((HB.out.cell (World.block_lt_of_cell? w _ hw297_0)).trans hw297_0), ((HB.out.cell (World.block_lt_of_cell? w _ hw297_1)).trans hw297_1), ((HB.out.cell (World.block_lt_of_cell? w _ hw297_2)).trans hw297_2), ((HB.out.cell (World.block_lt_of_cell? w _ hw297_3)).trans hw297_3)⟩ (fun hHeld => ?_); clear hK K; refine norm_ (a' := ?_) ?_ ?_; rotate_left
              ·
               show Act.put _ (some 48) _ = _
               simp only [Act.put, zq1, zq2, zq3, i64_w, i32_w]; rfl
              refine zU 19 49 zfe6f_m20 HT_ ?_; refine zU 20 50 zfe6f_m21 HT_ ?_; refine done_ (done_of HT_.out (by kernel_rfl)) ?_
              try go_wp2
              go_roundg k2
              case measure => have := HJ2.out; have := HK2.out; omega
              case rel => exact ⟨(x8_2), (wrap64 (x8_2 + 1)), zS, zS, H', ⟨by have := HJ2.out; have := HK2.out; omega⟩, ⟨zB BK293.out⟩, ⟨zH2 HB.out GE293.out GE296.out⟩⟩
             ·
              replace c26 := Bool.eq_false_iff.mpr c26; subst c26; have H1 : (pledgeref18_Rate.l0 k2 x7_2 (wrap64 (x8_2 + 1)) l0_0 l0_1 a0_2) = some (r1, r2, r3) := by rw [if_neg (show ¬ (false = true) by decide)] at H; exact H
              clear H; have H := H1; clear H1; have H' := Aside0.mk H; clear H; have hcz34_0 : wr.cell? ⟨gb293, 0, none⟩ = some (.slice A0_0 l0_0.length c0_0) := (blk_cell BK293.out 0).trans rfl; have hcz34_1 : wr.cell? ⟨gb293, 1, none⟩ = some (.slice A0_1 l0_1.length c0_1) := (blk_cell BK293.out 1).trans rfl; have hcz34_2 : wr.cell? ⟨gb293, 2, none⟩ = some (.int .i64 a0_2) := (blk_cell BK293.out 2).trans rfl; have hfz34_0 := blk_frozen BK293.out 0; have hfz34_1 := blk_frozen BK293.out 1; have hfz34_2 := blk_frozen BK293.out 2; have p295 : 0 ≤ (x8_2 : Int) := of_decide_eq_true zA; have q295 : x8_2 < (l0_0.length : Int) := of_decide_eq_true zA; obtain ⟨ad295, e295, hx295_0, hx295_1, hx295_2, hx295_3⟩ := at_T47 HR0_0.out x8_2 p295 q295
              cases e295
              replace hx295_0 := (HB.out.cell (World.block_lt_of_cell? w _ hx295_0)).trans hx295_0; replace hx295_1 := (HB.out.cell (World.block_lt_of_cell? w _ hx295_1)).trans hx295_1; replace hx295_2 := (HB.out.cell (World.block_lt_of_cell? w _ hx295_2)).trans hx295_2; replace hx295_3 := (HB.out.cell (World.block_lt_of_cell? w _ hx295_3)).trans hx295_3; replace p295 := eq_true p295; replace q295 := eq_true q295
              try go_wp2_with (first | ((with_reducible refine gate_dst (N := 9) rfl ?_); refine box_event ?hg (N := 9) ?hd (cs := #[.int .i64 0, .int .i64 0, .int .i64 0, .int .i64 0]) (t := 47) ?hr ?_; (case hd => rfl); (case hg => rfl); (case hr => first | (go_simp; done) | (go_simp; rfl)); intro gb296 hg w35 hbox hb; have n0_ := zBB BK293 hb; have n1_ := Aside0.mk (below_step (zH1 HB.out GE293.out) hb); have n2_ := Aside0.mk (hbox); have n3_ := Aside0.mk (zg hg (below_size (zH1 HB.out GE293.out)) : w.heap.size ≤ gb296); have n4_ := Aside0.mk (zg hg (below_size (zH1 HB.out GE293.out)) : w.heap.size ≤ gb296); have n5_ := Aside0.mk (zN hg BK293 : gb293 ≠ gb296); have n6_ := Aside0.mk (zO hg BK293 : gb296 ≠ gb293); clear BK293; clear HB; have BK293 := n0_; have HB := n1_; have BK296 := n2_; have GW296 := n3_; have GE296 := n4_; have NB293_296 := n5_; have NB296_293 := n6_; clear n0_ n1_ n2_ n3_ n4_ n5_ n6_; clear hb hbox hg; have hnb36 := NB296_293.out; have hnc36 := NB293_296.out; have hcz37_0 : w35.cell? ⟨gb296, 0, none⟩ = some (.int .i64 0) := (blk_cell BK296.out 0).trans rfl; have hcz37_1 : w35.cell? ⟨gb296, 1, none⟩ = some (.int .i64 0) := (blk_cell BK296.out 1).trans rfl; have hcz37_2 : w35.cell? ⟨gb296, 2, none⟩ = some (.int .i64 0) := (blk_cell BK296.out 2).trans rfl; have hcz37_3 : w35.cell? ⟨gb296, 3, none⟩ = some (.int .i64 0) := (blk_cell BK296.out 3).trans rfl; have hfz37_0 := blk_frozen BK296.out 0; have hfz37_1 := blk_frozen BK296.out 1; have hfz37_2 := blk_frozen BK296.out 2; have hfz37_3 := blk_frozen BK296.out 3))
              have n0_ : Aside0 (((((w35.setCell ⟨gb296, 0, none⟩ (.int .i64 ((rd_T47 l0_0 x8_2).f0))).setCell ⟨gb296, 1, none⟩ (.int .i64 ((rd_T47 l0_0 x8_2).f1))).setCell ⟨gb296, 2, none⟩ (.int .i64 ((rd_T47 l0_0 x8_2).f2))).setCell ⟨gb296, 3, none⟩ (.int .i64 ((rd_T47 l0_0 x8_2).f3))).heap[gb293]? = some (.cells #[.slice (some ad295) l0_0.length c0_0, .slice A0_1 l0_1.length c0_1, .int .i64 a0_2] 30 (0, 0))) := ⟨by (with_reducible repeat (first | refine blk_drewN ?_ _ | refine blk_drew ?_ | refine blk_alloc ?_ _ | refine blk_far ?_ NB293_296.out _)); exact BK293.out⟩; have n1_ : Aside0 (((((w35.setCell ⟨gb296, 0, none⟩ (.int .i64 ((rd_T47 l0_0 x8_2).f0))).setCell ⟨gb296, 1, none⟩ (.int .i64 ((rd_T47 l0_0 x8_2).f1))).setCell ⟨gb296, 2, none⟩ (.int .i64 ((rd_T47 l0_0 x8_2).f2))).setCell ⟨gb296, 3, none⟩ (.int .i64 ((rd_T47 l0_0 x8_2).f3))).heap[gb296]? = some (.cells #[.int .i64 ((rd_T47 l0_0 x8_2).f0), .int .i64 ((rd_T47 l0_0 x8_2).f1), .int .i64 ((rd_T47 l0_0 x8_2).f2), .int .i64 ((rd_T47 l0_0 x8_2).f3)] 47 (0, 0))) := ⟨by (with_reducible repeat (first | refine blk_drewN ?_ _ | refine blk_drew ?_ | refine blk_alloc ?_ _)); refine blk_put (cs := #[.int .i64 ((rd_T47 l0_0 x8_2).f0), .int .i64 ((rd_T47 l0_0 x8_2).f1), .int .i64 ((rd_T47 l0_0 x8_2).f2), .int .i64 0]) ?_ 3 _ rfl; (with_reducible repeat (first | refine blk_drewN ?_ _ | refine blk_drew ?_ | refine blk_alloc ?_ _)); refine blk_put (cs := #[.int .i64 ((rd_T47 l0_0 x8_2).f0), .int .i64 ((rd_T47 l0_0 x8_2).f1), .int .i64 0, .int .i64 0]) ?_ 2 _ rfl; (with_reducible repeat (first | refine blk_drewN ?_ _ | refine blk_drew ?_ | refine blk_alloc ?_ _)); refine blk_put (cs := #[.int .i64 ((rd_T47 l0_0 x8_2).f0), .int .i64 0, .int .i64 0, .int .i64 0]) ?_ 1 _ rfl; (with_reducible repeat (first | refine blk_drewN ?_ _ | refine blk_drew ?_ | refine blk_alloc ?_ _)); refine blk_put (cs := #[.int .i64 0, .int .i64 0, .int .i64 0, .int .i64 0]) ?_ 0 _ rfl; (with_reducible repeat (first | refine blk_drewN ?_ _ | refine blk_drew ?_ | refine blk_alloc ?_ _)); exact BK296.out⟩; have n2_ : Aside0 (Below w.heap.size w ((((w35.setCell ⟨gb296, 0, none⟩ (.int .i64 ((rd_T47 l0_0 x8_2).f0))).setCell ⟨gb296, 1, none⟩ (.int .i64 ((rd_T47 l0_0 x8_2).f1))).setCell ⟨gb296, 2, none⟩ (.int .i64 ((rd_T47 l0_0 x8_2).f2))).setCell ⟨gb296, 3, none⟩ (.int .i64 ((rd_T47 l0_0 x8_2).f3)))) := ⟨zH2 HB.out GE293.out GE296.out⟩; (try clear BK293); (try clear BK296); (try clear HB); generalize ((((w35.setCell ⟨gb296, 0, none⟩ (.int .i64 ((rd_T47 l0_0 x8_2).f0))).setCell ⟨gb296, 1, none⟩ (.int .i64 ((rd_T47 l0_0 x8_2).f1))).setCell ⟨gb296, 2, none⟩ (.int .i64 ((rd_T47 l0_0 x8_2).f2))).setCell ⟨gb296, 3, none⟩ (.int .i64 ((rd_T47 l0_0 x8_2).f3))) = w38 at n0_ n1_ n2_ ⊢; have BK293 := n0_; have BK296 := n1_; have HB := n2_; clear n0_ n1_ n2_; have n0_ := Aside0.mk (blk_drew BK293.out); have n1_ := Aside0.mk (blk_drew BK296.out); have n2_ := Aside0.mk (below_drew1 HB.out); clear BK293; clear BK296; clear HB; have BK293 := n0_; have BK296 := n1_; have HB := n2_; clear n0_ n1_ n2_; have p297 : 0 ≤ (x7_2 : Int) := of_decide_eq_true zA; have q297 : x7_2 < (l0_0.length : Int) := of_decide_eq_true zA; obtain ⟨ad297, e297, hx297_0, hx297_1, hx297_2, hx297_3⟩ := at_T47 HR0_0.out x7_2 p297 q297; have hw297_3 := hx297_3; have hw297_2 := hx297_2; have hw297_1 := hx297_1; have hw297_0 := hx297_0; obtain rfl : ad295 = ad297 := (by injection e297); replace hx297_0 := (HB.out.cell (World.block_lt_of_cell? w _ hx297_0)).trans hx297_0; replace hx297_1 := (HB.out.cell (World.block_lt_of_cell? w _ hx297_1)).trans hx297_1; replace hx297_2 := (HB.out.cell (World.block_lt_of_cell? w _ hx297_2)).trans hx297_2; replace hx297_3 := (HB.out.cell (World.block_lt_of_cell? w _ hx297_3)).trans hx297_3; replace p297 := eq_true p297; replace q297 := eq_true q297; refine start_ (n := 21) (S := fun w' => w'.cell? ⟨gb296, 0, none⟩ = some (.int .i64 ((rd_T47 l0_0 x8_2).f0)) ∧ w'.cell? ⟨gb296, 1, none⟩ = some (.int .i64 ((rd_T47 l0_0 x8_2).f1)) ∧ w'.cell? ⟨gb296, 2, none⟩ = some (.int .i64 ((rd_T47 l0_0 x8_2).f2)) ∧ w'.cell? ⟨gb296, 3, none⟩ = some (.int .i64 ((rd_T47 l0_0 x8_2).f3)) ∧ w'.cell? ⟨gb293, 0, none⟩ = some (.slice (some ad295) l0_0.length c0_0) ∧ w'.cell? ⟨gb293, 1, none⟩ = some (.slice A0_1 l0_1.length c0_1) ∧ w'.cell? ⟨gb293, 2, none⟩ = some (.int .i64 a0_2) ∧ w'.cell? (ad295.add ((x7_2).toNat * 4)) = some (.int .i64 ((rd_T47 l0_0 x7_2).f0)) ∧ w'.cell? ⟨(ad295.add ((x7_2).toNat * 4)).block, (ad295.add ((x7_2).toNat * 4)).off + 1, none⟩ = some (.int .i64 ((rd_T47 l0_0 x7_2).f1)) ∧ w'.cell? ⟨(ad295.add ((x7_2).toNat * 4)).block, (ad295.add ((x7_2).toNat * 4)).off + 2, none⟩ = some (.int .i64 ((rd_T47 l0_0 x7_2).f2)) ∧ w'.cell? ⟨(ad295.add ((x7_2).toNat * 4)).block, (ad295.add ((x7_2).toNat * 4)).off + 3, none⟩ = some (.int .i64 ((rd_T47 l0_0 x7_2).f3))) (ds := []) zfe6f_m0 (by kernel_rfl) rfl rfl ⟨(blk_cell BK296.out 0).trans rfl, (blk_cell BK296.out 1).trans rfl, (blk_cell BK296.out 2).trans rfl, (blk_cell BK296.out 3).trans rfl, (blk_cell BK293.out 0).trans rfl, (blk_cell BK293.out 1).trans rfl, (blk_cell BK293.out 2).trans rfl, ((HB.out.cell (World.block_lt_of_cell? w _ hw297_0)).trans hw297_0), ((HB.out.cell (World.block_lt_of_cell? w _ hw297_1)).trans hw297_1), ((HB.out.cell (World.block_lt_of_cell? w _ hw297_2)).trans hw297_2), ((HB.out.cell (World.block_lt_of_cell? w _ hw297_3)).trans hw297_3)⟩ (fun hHeld => ?_); refine with_tabW pledgeref18_Rate.tab8 pledgeref18_Rate.bits8 (fun HT_ HW_ => ?_); generalize w38.drew = w39 at BK293 BK296 HB hx297_0 hx297_1 hx297_2 hx297_3 hHeld ⊢; refine zU 0 30 zfe6f_m1 HT_ ?_; refine take_ (i := 1) (N := some 31) (v := ?_) (a' := ?_) zfe6f_m2 rfl rfl (take_ofW HT_.out HW_.out (by kernel_rfl)) (fun _ _ _ h => h) (Or.inl ⟨by rfl, ?_⟩) hHeld ?_ ?_; rotate_left
              ·
               rintro w' ⟨s0, s1, s2, s3, s4, s5, s6, s7, s8, s9, s10⟩; go_simp
               with_reducible rfl
              rotate_left
              · simp only [Act.put, zq1, zq2, zq3, i64_w, i32_w]; rfl
              refine zU 2 32 zfe6f_m3 HT_ ?_; refine zU 3 33 zfe6f_m4 HT_ ?_; refine zU 4 34 zfe6f_m5 HT_ ?_; refine take_ (i := 5) (N := some 35) (v := ?_) (a' := ?_) zfe6f_m6 rfl rfl (take_ofW HT_.out HW_.out (by kernel_rfl)) (fun _ _ _ h => h) (Or.inl ⟨by rfl, ?_⟩) hHeld ?_ ?_; rotate_left
              ·
               rintro w' ⟨s0, s1, s2, s3, s4, s5, s6, s7, s8, s9, s10⟩; go_simp
               with_reducible rfl
              rotate_left
              · simp only [Act.put, zq1, zq2, zq3, i64_w, i32_w]; rfl
              refine zU 6 36 zfe6f_m7 HT_ ?_; refine zU 7 37 zfe6f_m8 HT_ ?_; refine zU 8 38 zfe6f_m9 HT_ ?_; refine zU 9 39 zfe6f_m10 HT_ ?_; refine zU 10 40 zfe6f_m11 HT_ ?_; refine zU 11 41 zfe6f_m12 HT_ ?_; refine zU 12 42 zfe6f_m13 HT_ ?_; refine zU 14 44 zfe6f_m22 HT_ ?_; refine take_ (i := 13) (N := some 43) (v := ?_) (a' := ?_) zfe6f_m15 rfl rfl (take_ofW HT_.out HW_.out (by kernel_rfl)) (fun _ _ _ h => h) (Or.inl ⟨by rfl, ?_⟩) hHeld ?_ ?_; rotate_left
              ·
               rintro w' ⟨s0, s1, s2, s3, s4, s5, s6, s7, s8, s9, s10⟩; go_simp
               with_reducible rfl
              rotate_left
              · simp only [Act.put, zq1, zq2, zq3, i64_w, i32_w]; rfl
              refine zU 15 45 zfe6f_m16 HT_ ?_; refine take_ (i := 16) (N := some 46) (v := ?_) (a' := ?_) zfe6f_m17 rfl rfl (take_ofW HT_.out HW_.out (by kernel_rfl)) (fun _ _ _ h => h) (Or.inl ⟨by rfl, ?_⟩) hHeld ?_ ?_; rotate_left
              ·
               rintro w' ⟨s0, s1, s2, s3, s4, s5, s6, s7, s8, s9, s10⟩; go_simp
               with_reducible rfl
              rotate_left
              · simp only [Act.put, zq1, zq2, zq3, i64_w, i32_w]; rfl
              refine take_ (i := 17) (N := some 47) (v := ?_) (a' := ?_) zfe6f_m18 rfl rfl (take_ofW HT_.out HW_.out (by kernel_rfl)) (fun _ _ _ h => h) (Or.inl ⟨by rfl, ?_⟩) hHeld ?_ ?_; rotate_left
              ·
               rintro w' ⟨s0, s1, s2, s3, s4, s5, s6, s7, s8, s9, s10⟩; go_simp
               with_reducible rfl
              rotate_left
              · simp only [Act.put, zq1, zq2, zq3, i64_w, i32_w]; rfl
              refine one_ (i := 18) (N := some 48) zfe6f_m19 rfl rfl (one_of HT_.out (by kernel_rfl)) (by decide) (fun K hK => ?_); refine goes_ Tryd.func41 (by kernel_rfl) rfl #[.agg #[.int .i64 ((rd_T47 l0_0 x7_2).f0), .int .i64 ((rd_T47 l0_0 x7_2).f1), .int .i64 ((rd_T47 l0_0 x7_2).f2), .int .i64 ((rd_T47 l0_0 x7_2).f3)], .agg #[.int .i64 ((rd_T47 l0_0 x8_2).f0), .int .i64 ((rd_T47 l0_0 x8_2).f1), .int .i64 ((rd_T47 l0_0 x8_2).f2), .int .i64 ((rd_T47 l0_0 x8_2).f3)]] (by rfl) rfl rfl zM ?_
              with_reducible refine (pledgeref18_dearer.calls k2 ((rd_T47 l0_0 x7_2).f0) ((rd_T47 l0_0 x7_2).f1) ((rd_T47 l0_0 x7_2).f2) ((rd_T47 l0_0 x7_2).f3) ((rd_T47 l0_0 x8_2).f0) ((rd_T47 l0_0 x8_2).f1) ((rd_T47 l0_0 x8_2).f2) ((rd_T47 l0_0 x8_2).f3) false _ A25.out).mono ?_
              rintro e w40 ⟨rfl, hb⟩; refine ⟨_, rfl, ?_⟩; have n0_ := zBB BK293 hb; have n1_ := zBB BK296 hb; have n2_ := Aside0.mk (below_step (zH2 HB.out GE293.out GE296.out) hb); clear BK293; clear BK296; clear HB; have BK293 := n0_; have BK296 := n1_; have HB := n2_; clear n0_ n1_ n2_; (try clear hb); (try clear hb2); (try clear hk); (try clear hi); refine hK.out _ _ ⟨(blk_cell BK296.out 0).trans rfl, (blk_cell BK296.out 1).trans rfl, (blk_cell BK296.out 2).trans rfl, (blk_cell BK296.out 3).trans rfl, (blk_cell BK293.out 0).trans rfl, (blk_cell BK293.out 1).trans rfl, (blk_cell BK293.out 2).trans rfl, ((HB.out.cell (World.block_lt_of_cell? w _ hw297_0)).trans hw297_0), ((HB.out.cell (World.block_lt_of_cell? w _ hw297_1)).trans hw297_1), ((HB.out.cell (World.block_lt_of_cell? w _ hw297_2)).trans hw297_2), ((HB.out.cell (World.block_lt_of_cell? w _ hw297_3)).trans hw297_3)⟩ (fun hHeld => ?_); clear hK K; refine norm_ (a' := ?_) ?_ ?_; rotate_left
              ·
               show Act.put _ (some 48) _ = _
               simp only [Act.put, zq1, zq2, zq3, i64_w, i32_w]; rfl
              refine zU 19 49 zfe6f_m20 HT_ ?_; refine zU 20 50 zfe6f_m21 HT_ ?_; refine done_ (done_of HT_.out (by kernel_rfl)) ?_
              try go_wp2
              go_roundg k2
              case measure => have := HJ2.out; have := HK2.out; omega
              case rel => exact ⟨(x7_2), (wrap64 (x8_2 + 1)), zS, zS, H', ⟨by have := HJ2.out; have := HK2.out; omega⟩, ⟨zB BK293.out⟩, ⟨zH2 HB.out GE293.out GE296.out⟩⟩
            ·
             rw [if_neg c24] at H; exact absurd H (by simp)
           ·
            rw [if_neg c23] at H; exact absurd H (by simp)
         ·
          rw [if_neg c15] at H; have c15b0 : decide (0 < ((rd_T47 l0_0 x8_2).f0)) = false := decide_eq_false c15; clear c15; have H' := Aside0.mk H; clear H; have hcz41_0 : wr.cell? ⟨gb293, 0, none⟩ = some (.slice A0_0 l0_0.length c0_0) := (blk_cell BK293.out 0).trans rfl; have hcz41_1 : wr.cell? ⟨gb293, 1, none⟩ = some (.slice A0_1 l0_1.length c0_1) := (blk_cell BK293.out 1).trans rfl; have hcz41_2 : wr.cell? ⟨gb293, 2, none⟩ = some (.int .i64 a0_2) := (blk_cell BK293.out 2).trans rfl; have hfz41_0 := blk_frozen BK293.out 0; have hfz41_1 := blk_frozen BK293.out 1; have hfz41_2 := blk_frozen BK293.out 2; have p295 : 0 ≤ (x8_2 : Int) := of_decide_eq_true zA; have q295 : x8_2 < (l0_0.length : Int) := of_decide_eq_true zA; obtain ⟨ad295, e295, hx295_0, hx295_1, hx295_2, hx295_3⟩ := at_T47 HR0_0.out x8_2 p295 q295
          cases e295
          replace hx295_0 := (HB.out.cell (World.block_lt_of_cell? w _ hx295_0)).trans hx295_0; replace hx295_1 := (HB.out.cell (World.block_lt_of_cell? w _ hx295_1)).trans hx295_1; replace hx295_2 := (HB.out.cell (World.block_lt_of_cell? w _ hx295_2)).trans hx295_2; replace hx295_3 := (HB.out.cell (World.block_lt_of_cell? w _ hx295_3)).trans hx295_3; replace p295 := eq_true p295; replace q295 := eq_true q295
          try go_wp2_with (first | ((with_reducible refine gate_dst (N := 9) rfl ?_); refine box_event ?hg (N := 9) ?hd (cs := #[.int .i64 0, .int .i64 0, .int .i64 0, .int .i64 0]) (t := 47) ?hr ?_; (case hd => rfl); (case hg => rfl); (case hr => first | (go_simp; done) | (go_simp; rfl)); intro gb296 hg w42 hbox hb; have n0_ := zBB BK293 hb; have n1_ := Aside0.mk (below_step (zH1 HB.out GE293.out) hb); have n2_ := Aside0.mk (hbox); have n3_ := Aside0.mk (zg hg (below_size (zH1 HB.out GE293.out)) : w.heap.size ≤ gb296); have n4_ := Aside0.mk (zg hg (below_size (zH1 HB.out GE293.out)) : w.heap.size ≤ gb296); have n5_ := Aside0.mk (zN hg BK293 : gb293 ≠ gb296); have n6_ := Aside0.mk (zO hg BK293 : gb296 ≠ gb293); clear BK293; clear HB; have BK293 := n0_; have HB := n1_; have BK296 := n2_; have GW296 := n3_; have GE296 := n4_; have NB293_296 := n5_; have NB296_293 := n6_; clear n0_ n1_ n2_ n3_ n4_ n5_ n6_; clear hb hbox hg; have hnb43 := NB296_293.out; have hnc43 := NB293_296.out; have hcz44_0 : w42.cell? ⟨gb296, 0, none⟩ = some (.int .i64 0) := (blk_cell BK296.out 0).trans rfl; have hcz44_1 : w42.cell? ⟨gb296, 1, none⟩ = some (.int .i64 0) := (blk_cell BK296.out 1).trans rfl; have hcz44_2 : w42.cell? ⟨gb296, 2, none⟩ = some (.int .i64 0) := (blk_cell BK296.out 2).trans rfl; have hcz44_3 : w42.cell? ⟨gb296, 3, none⟩ = some (.int .i64 0) := (blk_cell BK296.out 3).trans rfl; have hfz44_0 := blk_frozen BK296.out 0; have hfz44_1 := blk_frozen BK296.out 1; have hfz44_2 := blk_frozen BK296.out 2; have hfz44_3 := blk_frozen BK296.out 3))
          have n0_ : Aside0 (((((w42.setCell ⟨gb296, 0, none⟩ (.int .i64 ((rd_T47 l0_0 x8_2).f0))).setCell ⟨gb296, 1, none⟩ (.int .i64 ((rd_T47 l0_0 x8_2).f1))).setCell ⟨gb296, 2, none⟩ (.int .i64 ((rd_T47 l0_0 x8_2).f2))).setCell ⟨gb296, 3, none⟩ (.int .i64 ((rd_T47 l0_0 x8_2).f3))).heap[gb293]? = some (.cells #[.slice (some ad295) l0_0.length c0_0, .slice A0_1 l0_1.length c0_1, .int .i64 a0_2] 30 (0, 0))) := ⟨by (with_reducible repeat (first | refine blk_drewN ?_ _ | refine blk_drew ?_ | refine blk_alloc ?_ _ | refine blk_far ?_ NB293_296.out _)); exact BK293.out⟩; have n1_ : Aside0 (((((w42.setCell ⟨gb296, 0, none⟩ (.int .i64 ((rd_T47 l0_0 x8_2).f0))).setCell ⟨gb296, 1, none⟩ (.int .i64 ((rd_T47 l0_0 x8_2).f1))).setCell ⟨gb296, 2, none⟩ (.int .i64 ((rd_T47 l0_0 x8_2).f2))).setCell ⟨gb296, 3, none⟩ (.int .i64 ((rd_T47 l0_0 x8_2).f3))).heap[gb296]? = some (.cells #[.int .i64 ((rd_T47 l0_0 x8_2).f0), .int .i64 ((rd_T47 l0_0 x8_2).f1), .int .i64 ((rd_T47 l0_0 x8_2).f2), .int .i64 ((rd_T47 l0_0 x8_2).f3)] 47 (0, 0))) := ⟨by (with_reducible repeat (first | refine blk_drewN ?_ _ | refine blk_drew ?_ | refine blk_alloc ?_ _)); refine blk_put (cs := #[.int .i64 ((rd_T47 l0_0 x8_2).f0), .int .i64 ((rd_T47 l0_0 x8_2).f1), .int .i64 ((rd_T47 l0_0 x8_2).f2), .int .i64 0]) ?_ 3 _ rfl; (with_reducible repeat (first | refine blk_drewN ?_ _ | refine blk_drew ?_ | refine blk_alloc ?_ _)); refine blk_put (cs := #[.int .i64 ((rd_T47 l0_0 x8_2).f0), .int .i64 ((rd_T47 l0_0 x8_2).f1), .int .i64 0, .int .i64 0]) ?_ 2 _ rfl; (with_reducible repeat (first | refine blk_drewN ?_ _ | refine blk_drew ?_ | refine blk_alloc ?_ _)); refine blk_put (cs := #[.int .i64 ((rd_T47 l0_0 x8_2).f0), .int .i64 0, .int .i64 0, .int .i64 0]) ?_ 1 _ rfl; (with_reducible repeat (first | refine blk_drewN ?_ _ | refine blk_drew ?_ | refine blk_alloc ?_ _)); refine blk_put (cs := #[.int .i64 0, .int .i64 0, .int .i64 0, .int .i64 0]) ?_ 0 _ rfl; (with_reducible repeat (first | refine blk_drewN ?_ _ | refine blk_drew ?_ | refine blk_alloc ?_ _)); exact BK296.out⟩; have n2_ : Aside0 (Below w.heap.size w ((((w42.setCell ⟨gb296, 0, none⟩ (.int .i64 ((rd_T47 l0_0 x8_2).f0))).setCell ⟨gb296, 1, none⟩ (.int .i64 ((rd_T47 l0_0 x8_2).f1))).setCell ⟨gb296, 2, none⟩ (.int .i64 ((rd_T47 l0_0 x8_2).f2))).setCell ⟨gb296, 3, none⟩ (.int .i64 ((rd_T47 l0_0 x8_2).f3)))) := ⟨zH2 HB.out GE293.out GE296.out⟩; (try clear BK293); (try clear BK296); (try clear HB); generalize ((((w42.setCell ⟨gb296, 0, none⟩ (.int .i64 ((rd_T47 l0_0 x8_2).f0))).setCell ⟨gb296, 1, none⟩ (.int .i64 ((rd_T47 l0_0 x8_2).f1))).setCell ⟨gb296, 2, none⟩ (.int .i64 ((rd_T47 l0_0 x8_2).f2))).setCell ⟨gb296, 3, none⟩ (.int .i64 ((rd_T47 l0_0 x8_2).f3))) = w45 at n0_ n1_ n2_ ⊢; have BK293 := n0_; have BK296 := n1_; have HB := n2_; clear n0_ n1_ n2_; have n0_ := Aside0.mk (blk_drew BK293.out); have n1_ := Aside0.mk (blk_drew BK296.out); have n2_ := Aside0.mk (below_drew1 HB.out); clear BK293; clear BK296; clear HB; have BK293 := n0_; have BK296 := n1_; have HB := n2_; clear n0_ n1_ n2_; refine start_ (n := 21) (S := fun w' => w'.cell? ⟨gb296, 0, none⟩ = some (.int .i64 ((rd_T47 l0_0 x8_2).f0)) ∧ w'.cell? ⟨gb296, 1, none⟩ = some (.int .i64 ((rd_T47 l0_0 x8_2).f1)) ∧ w'.cell? ⟨gb296, 2, none⟩ = some (.int .i64 ((rd_T47 l0_0 x8_2).f2)) ∧ w'.cell? ⟨gb296, 3, none⟩ = some (.int .i64 ((rd_T47 l0_0 x8_2).f3))) (ds := []) zfe6f_m0 (by kernel_rfl) rfl rfl ⟨(blk_cell BK296.out 0).trans rfl, (blk_cell BK296.out 1).trans rfl, (blk_cell BK296.out 2).trans rfl, (blk_cell BK296.out 3).trans rfl⟩ (fun hHeld => ?_); refine with_tabW pledgeref18_Rate.tab8 pledgeref18_Rate.bits8 (fun HT_ HW_ => ?_); generalize w45.drew = w46 at BK293 BK296 HB hHeld ⊢; refine zU 0 30 zfe6f_m1 HT_ ?_; refine take_ (i := 1) (N := some 31) (v := ?_) (a' := ?_) zfe6f_m2 rfl rfl (take_ofW HT_.out HW_.out (by kernel_rfl)) (fun _ _ _ h => h) (Or.inl ⟨by rfl, ?_⟩) hHeld ?_ ?_; rotate_left
          ·
           rintro w' ⟨s0, s1, s2, s3⟩; go_simp
           with_reducible rfl
          rotate_left
          · simp only [Act.put, zq1, zq2, zq3, i64_w, i32_w]; rfl
          refine zU 2 32 zfe6f_m3 HT_ ?_; refine zU 3 33 zfe6f_m4 HT_ ?_; refine zU 4 34 zfe6f_m5 HT_ ?_; refine take_ (i := 5) (N := some 35) (v := ?_) (a' := ?_) zfe6f_m6 rfl rfl (take_ofW HT_.out HW_.out (by kernel_rfl)) (fun _ _ _ h => h) (Or.inl ⟨by rfl, ?_⟩) hHeld ?_ ?_; rotate_left
          ·
           rintro w' ⟨s0, s1, s2, s3⟩; go_simp
           with_reducible rfl
          rotate_left
          · simp only [Act.put, zq1, zq2, zq3, i64_w, i32_w]; rfl
          refine zU 6 36 zfe6f_m7 HT_ ?_; refine zU 7 37 zfe6f_m8 HT_ ?_; refine zU 8 38 zfe6f_m9 HT_ ?_; refine zV 9 39 zfe6f_m10 HT_ ?_; refine zV 10 40 zfe6f_m11 HT_ ?_; refine zV 11 41 zfe6f_m12 HT_ ?_; refine zV 12 42 zfe6f_m13 HT_ ?_; refine zV 13 43 zfe6f_m14 HT_ ?_; refine zV 14 44 zfe6f_m15 HT_ ?_; refine zV 15 45 zfe6f_m16 HT_ ?_; refine zV 16 46 zfe6f_m17 HT_ ?_; refine zV 17 47 zfe6f_m18 HT_ ?_; refine zV 18 48 zfe6f_m19 HT_ ?_; refine zV 19 49 zfe6f_m20 HT_ ?_; refine zU 20 50 zfe6f_m21 HT_ ?_; refine done_ (done_of HT_.out (by kernel_rfl)) ?_
          try go_wp2
          go_roundg k2
          case measure => have := HJ2.out; have := HK2.out; omega
          case rel => exact ⟨(x7_2), (wrap64 (x8_2 + 1)), zS, zS, H', ⟨by have := HJ2.out; have := HK2.out; omega⟩, ⟨zB BK293.out⟩, ⟨zH2 HB.out GE293.out GE296.out⟩⟩
        ·
         rw [if_neg c14] at H; have c14b0 : decide (0 < ((rd_T47 l0_0 x8_2).f1)) = false := decide_eq_false c14; clear c14; have H' := Aside0.mk H; clear H; have hcz47_0 : wr.cell? ⟨gb293, 0, none⟩ = some (.slice A0_0 l0_0.length c0_0) := (blk_cell BK293.out 0).trans rfl; have hcz47_1 : wr.cell? ⟨gb293, 1, none⟩ = some (.slice A0_1 l0_1.length c0_1) := (blk_cell BK293.out 1).trans rfl; have hcz47_2 : wr.cell? ⟨gb293, 2, none⟩ = some (.int .i64 a0_2) := (blk_cell BK293.out 2).trans rfl; have hfz47_0 := blk_frozen BK293.out 0; have hfz47_1 := blk_frozen BK293.out 1; have hfz47_2 := blk_frozen BK293.out 2; have p295 : 0 ≤ (x8_2 : Int) := of_decide_eq_true zA; have q295 : x8_2 < (l0_0.length : Int) := of_decide_eq_true zA; obtain ⟨ad295, e295, hx295_0, hx295_1, hx295_2, hx295_3⟩ := at_T47 HR0_0.out x8_2 p295 q295
         cases e295
         replace hx295_0 := (HB.out.cell (World.block_lt_of_cell? w _ hx295_0)).trans hx295_0; replace hx295_1 := (HB.out.cell (World.block_lt_of_cell? w _ hx295_1)).trans hx295_1; replace hx295_2 := (HB.out.cell (World.block_lt_of_cell? w _ hx295_2)).trans hx295_2; replace hx295_3 := (HB.out.cell (World.block_lt_of_cell? w _ hx295_3)).trans hx295_3; replace p295 := eq_true p295; replace q295 := eq_true q295
         try go_wp2_with (first | ((with_reducible refine gate_dst (N := 9) rfl ?_); refine box_event ?hg (N := 9) ?hd (cs := #[.int .i64 0, .int .i64 0, .int .i64 0, .int .i64 0]) (t := 47) ?hr ?_; (case hd => rfl); (case hg => rfl); (case hr => first | (go_simp; done) | (go_simp; rfl)); intro gb296 hg w48 hbox hb; have n0_ := zBB BK293 hb; have n1_ := Aside0.mk (below_step (zH1 HB.out GE293.out) hb); have n2_ := Aside0.mk (hbox); have n3_ := Aside0.mk (zg hg (below_size (zH1 HB.out GE293.out)) : w.heap.size ≤ gb296); have n4_ := Aside0.mk (zg hg (below_size (zH1 HB.out GE293.out)) : w.heap.size ≤ gb296); have n5_ := Aside0.mk (zN hg BK293 : gb293 ≠ gb296); have n6_ := Aside0.mk (zO hg BK293 : gb296 ≠ gb293); clear BK293; clear HB; have BK293 := n0_; have HB := n1_; have BK296 := n2_; have GW296 := n3_; have GE296 := n4_; have NB293_296 := n5_; have NB296_293 := n6_; clear n0_ n1_ n2_ n3_ n4_ n5_ n6_; clear hb hbox hg; have hnb49 := NB296_293.out; have hnc49 := NB293_296.out; have hcz50_0 : w48.cell? ⟨gb296, 0, none⟩ = some (.int .i64 0) := (blk_cell BK296.out 0).trans rfl; have hcz50_1 : w48.cell? ⟨gb296, 1, none⟩ = some (.int .i64 0) := (blk_cell BK296.out 1).trans rfl; have hcz50_2 : w48.cell? ⟨gb296, 2, none⟩ = some (.int .i64 0) := (blk_cell BK296.out 2).trans rfl; have hcz50_3 : w48.cell? ⟨gb296, 3, none⟩ = some (.int .i64 0) := (blk_cell BK296.out 3).trans rfl; have hfz50_0 := blk_frozen BK296.out 0; have hfz50_1 := blk_frozen BK296.out 1; have hfz50_2 := blk_frozen BK296.out 2; have hfz50_3 := blk_frozen BK296.out 3))
         have n0_ : Aside0 (((((w48.setCell ⟨gb296, 0, none⟩ (.int .i64 ((rd_T47 l0_0 x8_2).f0))).setCell ⟨gb296, 1, none⟩ (.int .i64 ((rd_T47 l0_0 x8_2).f1))).setCell ⟨gb296, 2, none⟩ (.int .i64 ((rd_T47 l0_0 x8_2).f2))).setCell ⟨gb296, 3, none⟩ (.int .i64 ((rd_T47 l0_0 x8_2).f3))).heap[gb293]? = some (.cells #[.slice (some ad295) l0_0.length c0_0, .slice A0_1 l0_1.length c0_1, .int .i64 a0_2] 30 (0, 0))) := ⟨by (with_reducible repeat (first | refine blk_drewN ?_ _ | refine blk_drew ?_ | refine blk_alloc ?_ _ | refine blk_far ?_ NB293_296.out _)); exact BK293.out⟩; have n1_ : Aside0 (((((w48.setCell ⟨gb296, 0, none⟩ (.int .i64 ((rd_T47 l0_0 x8_2).f0))).setCell ⟨gb296, 1, none⟩ (.int .i64 ((rd_T47 l0_0 x8_2).f1))).setCell ⟨gb296, 2, none⟩ (.int .i64 ((rd_T47 l0_0 x8_2).f2))).setCell ⟨gb296, 3, none⟩ (.int .i64 ((rd_T47 l0_0 x8_2).f3))).heap[gb296]? = some (.cells #[.int .i64 ((rd_T47 l0_0 x8_2).f0), .int .i64 ((rd_T47 l0_0 x8_2).f1), .int .i64 ((rd_T47 l0_0 x8_2).f2), .int .i64 ((rd_T47 l0_0 x8_2).f3)] 47 (0, 0))) := ⟨by (with_reducible repeat (first | refine blk_drewN ?_ _ | refine blk_drew ?_ | refine blk_alloc ?_ _)); refine blk_put (cs := #[.int .i64 ((rd_T47 l0_0 x8_2).f0), .int .i64 ((rd_T47 l0_0 x8_2).f1), .int .i64 ((rd_T47 l0_0 x8_2).f2), .int .i64 0]) ?_ 3 _ rfl; (with_reducible repeat (first | refine blk_drewN ?_ _ | refine blk_drew ?_ | refine blk_alloc ?_ _)); refine blk_put (cs := #[.int .i64 ((rd_T47 l0_0 x8_2).f0), .int .i64 ((rd_T47 l0_0 x8_2).f1), .int .i64 0, .int .i64 0]) ?_ 2 _ rfl; (with_reducible repeat (first | refine blk_drewN ?_ _ | refine blk_drew ?_ | refine blk_alloc ?_ _)); refine blk_put (cs := #[.int .i64 ((rd_T47 l0_0 x8_2).f0), .int .i64 0, .int .i64 0, .int .i64 0]) ?_ 1 _ rfl; (with_reducible repeat (first | refine blk_drewN ?_ _ | refine blk_drew ?_ | refine blk_alloc ?_ _)); refine blk_put (cs := #[.int .i64 0, .int .i64 0, .int .i64 0, .int .i64 0]) ?_ 0 _ rfl; (with_reducible repeat (first | refine blk_drewN ?_ _ | refine blk_drew ?_ | refine blk_alloc ?_ _)); exact BK296.out⟩; have n2_ : Aside0 (Below w.heap.size w ((((w48.setCell ⟨gb296, 0, none⟩ (.int .i64 ((rd_T47 l0_0 x8_2).f0))).setCell ⟨gb296, 1, none⟩ (.int .i64 ((rd_T47 l0_0 x8_2).f1))).setCell ⟨gb296, 2, none⟩ (.int .i64 ((rd_T47 l0_0 x8_2).f2))).setCell ⟨gb296, 3, none⟩ (.int .i64 ((rd_T47 l0_0 x8_2).f3)))) := ⟨zH2 HB.out GE293.out GE296.out⟩; (try clear BK293); (try clear BK296); (try clear HB); generalize ((((w48.setCell ⟨gb296, 0, none⟩ (.int .i64 ((rd_T47 l0_0 x8_2).f0))).setCell ⟨gb296, 1, none⟩ (.int .i64 ((rd_T47 l0_0 x8_2).f1))).setCell ⟨gb296, 2, none⟩ (.int .i64 ((rd_T47 l0_0 x8_2).f2))).setCell ⟨gb296, 3, none⟩ (.int .i64 ((rd_T47 l0_0 x8_2).f3))) = w51 at n0_ n1_ n2_ ⊢; have BK293 := n0_; have BK296 := n1_; have HB := n2_; clear n0_ n1_ n2_; have n0_ := Aside0.mk (blk_drew BK293.out); have n1_ := Aside0.mk (blk_drew BK296.out); have n2_ := Aside0.mk (below_drew1 HB.out); clear BK293; clear BK296; clear HB; have BK293 := n0_; have BK296 := n1_; have HB := n2_; clear n0_ n1_ n2_; refine start_ (n := 21) (S := fun w' => w'.cell? ⟨gb296, 0, none⟩ = some (.int .i64 ((rd_T47 l0_0 x8_2).f0)) ∧ w'.cell? ⟨gb296, 1, none⟩ = some (.int .i64 ((rd_T47 l0_0 x8_2).f1)) ∧ w'.cell? ⟨gb296, 2, none⟩ = some (.int .i64 ((rd_T47 l0_0 x8_2).f2)) ∧ w'.cell? ⟨gb296, 3, none⟩ = some (.int .i64 ((rd_T47 l0_0 x8_2).f3))) (ds := []) zfe6f_m0 (by kernel_rfl) rfl rfl ⟨(blk_cell BK296.out 0).trans rfl, (blk_cell BK296.out 1).trans rfl, (blk_cell BK296.out 2).trans rfl, (blk_cell BK296.out 3).trans rfl⟩ (fun hHeld => ?_); refine with_tabW pledgeref18_Rate.tab8 pledgeref18_Rate.bits8 (fun HT_ HW_ => ?_); generalize w51.drew = w52 at BK293 BK296 HB hHeld ⊢; refine zU 0 30 zfe6f_m1 HT_ ?_; refine take_ (i := 1) (N := some 31) (v := ?_) (a' := ?_) zfe6f_m2 rfl rfl (take_ofW HT_.out HW_.out (by kernel_rfl)) (fun _ _ _ h => h) (Or.inl ⟨by rfl, ?_⟩) hHeld ?_ ?_; rotate_left
         ·
          rintro w' ⟨s0, s1, s2, s3⟩; go_simp
          with_reducible rfl
         rotate_left
         · simp only [Act.put, zq1, zq2, zq3, i64_w, i32_w]; rfl
         refine zU 2 32 zfe6f_m3 HT_ ?_; refine zU 3 33 zfe6f_m4 HT_ ?_; refine zV 4 34 zfe6f_m5 HT_ ?_; refine zV 5 35 zfe6f_m6 HT_ ?_; refine zV 6 36 zfe6f_m7 HT_ ?_; refine zU 7 37 zfe6f_m8 HT_ ?_; refine zU 8 38 zfe6f_m9 HT_ ?_; refine zV 9 39 zfe6f_m10 HT_ ?_; refine zV 10 40 zfe6f_m11 HT_ ?_; refine zV 11 41 zfe6f_m12 HT_ ?_; refine zV 12 42 zfe6f_m13 HT_ ?_; refine zV 13 43 zfe6f_m14 HT_ ?_; refine zV 14 44 zfe6f_m15 HT_ ?_; refine zV 15 45 zfe6f_m16 HT_ ?_; refine zV 16 46 zfe6f_m17 HT_ ?_; refine zV 17 47 zfe6f_m18 HT_ ?_; refine zV 18 48 zfe6f_m19 HT_ ?_; refine zV 19 49 zfe6f_m20 HT_ ?_; refine zU 20 50 zfe6f_m21 HT_ ?_; refine done_ (done_of HT_.out (by kernel_rfl)) ?_
         try go_wp2
         go_roundg k2
         case measure => have := HJ2.out; have := HK2.out; omega
         case rel => exact ⟨(x7_2), (wrap64 (x8_2 + 1)), zS, zS, H', ⟨by have := HJ2.out; have := HK2.out; omega⟩, ⟨zB BK293.out⟩, ⟨zH2 HB.out GE293.out GE296.out⟩⟩
       ·
        rw [if_neg c13] at H; exact absurd H (by simp)
      ·
       rw [if_neg c12] at H; have c12b0 : decide (x8_2 < (l0_0.length : Int)) = false := decide_eq_false c12; clear c12; by_cases c53 : x7_2 < 0
       ·
        rw [if_pos c53] at H; have c53b0 : decide (x7_2 < 0) = true := decide_eq_true c53; clear c53; simp only [Option.some.injEq, Prod.mk.injEq] at H; obtain ⟨rfl, rfl, rfl⟩ := H; have hcz54_0 : wr.cell? ⟨gb293, 0, none⟩ = some (.slice A0_0 l0_0.length c0_0) := (blk_cell BK293.out 0).trans rfl; have hcz54_1 : wr.cell? ⟨gb293, 1, none⟩ = some (.slice A0_1 l0_1.length c0_1) := (blk_cell BK293.out 1).trans rfl; have hcz54_2 : wr.cell? ⟨gb293, 2, none⟩ = some (.int .i64 a0_2) := (blk_cell BK293.out 2).trans rfl; have hfz54_0 := blk_frozen BK293.out 0; have hfz54_1 := blk_frozen BK293.out 1; have hfz54_2 := blk_frozen BK293.out 2
        go_wp2
        go_ret3
        exact ⟨zE, zH1 HB.out GE293.out⟩
       ·
        rw [if_neg c53] at H; have c53b0 : decide (x7_2 < 0) = false := decide_eq_false c53; clear c53; by_cases c55 : 0 ≤ x7_2
        ·
         rw [if_pos c55] at H; have c55b0 : decide (0 ≤ x7_2) = true := decide_eq_true c55; clear c55; by_cases c56 : x7_2 < (l0_0.length : Int)
         ·
          rw [if_pos c56] at H; have c56b0 : decide (x7_2 < (l0_0.length : Int)) = true := decide_eq_true c56; clear c56; simp only [Option.some.injEq, Prod.mk.injEq] at H; obtain ⟨rfl, rfl, rfl⟩ := H; have hcz57_0 : wr.cell? ⟨gb293, 0, none⟩ = some (.slice A0_0 l0_0.length c0_0) := (blk_cell BK293.out 0).trans rfl; have hcz57_1 : wr.cell? ⟨gb293, 1, none⟩ = some (.slice A0_1 l0_1.length c0_1) := (blk_cell BK293.out 1).trans rfl; have hcz57_2 : wr.cell? ⟨gb293, 2, none⟩ = some (.int .i64 a0_2) := (blk_cell BK293.out 2).trans rfl; have hfz57_0 := blk_frozen BK293.out 0; have hfz57_1 := blk_frozen BK293.out 1; have hfz57_2 := blk_frozen BK293.out 2
          try go_wp2
          have n0_ := Aside0.mk (blk_drew BK293.out); have n1_ := Aside0.mk (below_drew1 HB.out); clear BK293; clear HB; have BK293 := n0_; have HB := n1_; clear n0_ n1_; have p299 : 0 ≤ (x7_2 : Int) := of_decide_eq_true zA; have q299 : x7_2 < (l0_0.length : Int) := of_decide_eq_true zA; obtain ⟨ad299, e299, hx299_0, hx299_1, hx299_2, hx299_3⟩ := at_T47 HR0_0.out x7_2 p299 q299; have hw299_3 := hx299_3; have hw299_2 := hx299_2; have hw299_1 := hx299_1; have hw299_0 := hx299_0
          cases e299
          replace hx299_0 := (HB.out.cell (World.block_lt_of_cell? w _ hx299_0)).trans hx299_0; replace hx299_1 := (HB.out.cell (World.block_lt_of_cell? w _ hx299_1)).trans hx299_1; replace hx299_2 := (HB.out.cell (World.block_lt_of_cell? w _ hx299_2)).trans hx299_2; replace hx299_3 := (HB.out.cell (World.block_lt_of_cell? w _ hx299_3)).trans hx299_3; replace p299 := eq_true p299; replace q299 := eq_true q299; have p300 : 0 ≤ (x7_2 : Int) := of_decide_eq_true zA; have q300 : x7_2 < (l0_0.length : Int) := of_decide_eq_true zA; obtain ⟨ad300, e300, hx300_0, hx300_1, hx300_2, hx300_3⟩ := at_T47 HR0_0.out x7_2 p300 q300; have hw300_3 := hx300_3; have hw300_2 := hx300_2; have hw300_1 := hx300_1; have hw300_0 := hx300_0; obtain rfl : ad299 = ad300 := (by injection e300); replace hx300_0 := (HB.out.cell (World.block_lt_of_cell? w _ hx300_0)).trans hx300_0; replace hx300_1 := (HB.out.cell (World.block_lt_of_cell? w _ hx300_1)).trans hx300_1; replace hx300_2 := (HB.out.cell (World.block_lt_of_cell? w _ hx300_2)).trans hx300_2; replace hx300_3 := (HB.out.cell (World.block_lt_of_cell? w _ hx300_3)).trans hx300_3; replace p300 := eq_true p300; replace q300 := eq_true q300; refine start_ (n := 15) (S := fun w' => w'.cell? ⟨gb293, 0, none⟩ = some (.slice (some ad299) l0_0.length c0_0) ∧ w'.cell? ⟨gb293, 1, none⟩ = some (.slice A0_1 l0_1.length c0_1) ∧ w'.cell? ⟨gb293, 2, none⟩ = some (.int .i64 a0_2) ∧ w'.cell? (ad299.add ((x7_2).toNat * 4)) = some (.int .i64 ((rd_T47 l0_0 x7_2).f0)) ∧ w'.cell? ⟨(ad299.add ((x7_2).toNat * 4)).block, (ad299.add ((x7_2).toNat * 4)).off + 1, none⟩ = some (.int .i64 ((rd_T47 l0_0 x7_2).f1)) ∧ w'.cell? ⟨(ad299.add ((x7_2).toNat * 4)).block, (ad299.add ((x7_2).toNat * 4)).off + 2, none⟩ = some (.int .i64 ((rd_T47 l0_0 x7_2).f2)) ∧ w'.cell? ⟨(ad299.add ((x7_2).toNat * 4)).block, (ad299.add ((x7_2).toNat * 4)).off + 3, none⟩ = some (.int .i64 ((rd_T47 l0_0 x7_2).f3)) ∧ w'.cell? (ad299.add ((x7_2).toNat * 4)) = some (.int .i64 ((rd_T47 l0_0 x7_2).f0)) ∧ w'.cell? ⟨(ad299.add ((x7_2).toNat * 4)).block, (ad299.add ((x7_2).toNat * 4)).off + 1, none⟩ = some (.int .i64 ((rd_T47 l0_0 x7_2).f1)) ∧ w'.cell? ⟨(ad299.add ((x7_2).toNat * 4)).block, (ad299.add ((x7_2).toNat * 4)).off + 2, none⟩ = some (.int .i64 ((rd_T47 l0_0 x7_2).f2)) ∧ w'.cell? ⟨(ad299.add ((x7_2).toNat * 4)).block, (ad299.add ((x7_2).toNat * 4)).off + 3, none⟩ = some (.int .i64 ((rd_T47 l0_0 x7_2).f3))) (ds := []) zfe6f_m23 (by kernel_rfl) rfl rfl ⟨(blk_cell BK293.out 0).trans rfl, (blk_cell BK293.out 1).trans rfl, (blk_cell BK293.out 2).trans rfl, ((HB.out.cell (World.block_lt_of_cell? w _ hw299_0)).trans hw299_0), ((HB.out.cell (World.block_lt_of_cell? w _ hw299_1)).trans hw299_1), ((HB.out.cell (World.block_lt_of_cell? w _ hw299_2)).trans hw299_2), ((HB.out.cell (World.block_lt_of_cell? w _ hw299_3)).trans hw299_3), ((HB.out.cell (World.block_lt_of_cell? w _ hw300_0)).trans hw300_0), ((HB.out.cell (World.block_lt_of_cell? w _ hw300_1)).trans hw300_1), ((HB.out.cell (World.block_lt_of_cell? w _ hw300_2)).trans hw300_2), ((HB.out.cell (World.block_lt_of_cell? w _ hw300_3)).trans hw300_3)⟩ (fun hHeld => ?_); refine with_tabW pledgeref18_Rate.tab12 pledgeref18_Rate.bits12 (fun HT_ HW_ => ?_); generalize wr.drew = w58 at BK293 HB hx299_0 hx299_1 hx299_2 hx299_3 hx300_0 hx300_1 hx300_2 hx300_3 hHeld ⊢; refine zU 0 54 zfe6f_m24 HT_ ?_; refine zU 2 56 zfe6f_m25 HT_ ?_; refine zU 6 60 zfe6f_m26 HT_ ?_; refine zU 8 62 zfe6f_m27 HT_ ?_; refine take_ (i := 1) (N := some 55) (v := ?_) (a' := ?_) zfe6f_m28 rfl rfl (take_ofW HT_.out HW_.out (by kernel_rfl)) (fun _ _ _ h => h) (Or.inl ⟨by rfl, ?_⟩) hHeld ?_ ?_; rotate_left
          ·
           rintro w' ⟨s0, s1, s2, s3, s4, s5, s6, s7, s8, s9, s10⟩; go_simp
           with_reducible rfl
          rotate_left
          · simp only [Act.put, zq1, zq2, zq3, i64_w, i32_w]; rfl
          refine zU 3 57 zfe6f_m29 HT_ ?_; refine zU 4 58 zfe6f_m30 HT_ ?_; refine take_ (i := 5) (N := some 59) (v := ?_) (a' := ?_) zfe6f_m31 rfl rfl (take_ofW HT_.out HW_.out (by kernel_rfl)) (fun _ _ _ h => h) (Or.inl ⟨by rfl, ?_⟩) hHeld ?_ ?_; rotate_left
          ·
           rintro w' ⟨s0, s1, s2, s3, s4, s5, s6, s7, s8, s9, s10⟩; go_simp
           with_reducible rfl
          rotate_left
          · simp only [Act.put, zq1, zq2, zq3, i64_w, i32_w]; rfl
          refine zU 12 4 zfe6f_m32 HT_ ?_; refine take_ (i := 7) (N := some 61) (v := ?_) (a' := ?_) zfe6f_m33 rfl rfl (take_ofW HT_.out HW_.out (by kernel_rfl)) (fun _ _ _ h => h) (Or.inl ⟨by rfl, ?_⟩) hHeld ?_ ?_; rotate_left
          ·
           rintro w' ⟨s0, s1, s2, s3, s4, s5, s6, s7, s8, s9, s10⟩; go_simp
           with_reducible rfl
          rotate_left
          · simp only [Act.put, zq1, zq2, zq3, i64_w, i32_w]; rfl
          refine zU 9 63 zfe6f_m34 HT_ ?_; refine zU 10 64 zfe6f_m35 HT_ ?_; refine take_ (i := 11) (N := some 65) (v := ?_) (a' := ?_) zfe6f_m36 rfl rfl (take_ofW HT_.out HW_.out (by kernel_rfl)) (fun _ _ _ h => h) (Or.inl ⟨by rfl, ?_⟩) hHeld ?_ ?_; rotate_left
          ·
           rintro w' ⟨s0, s1, s2, s3, s4, s5, s6, s7, s8, s9, s10⟩; go_simp
           with_reducible rfl
          rotate_left
          · simp only [Act.put, zq1, zq2, zq3, i64_w, i32_w]; rfl
          refine zU 13 5 zfe6f_m37 HT_ ?_; refine zU 14 6 zfe6f_m38 HT_ ?_; refine done_ (done_of HT_.out (by kernel_rfl)) ?_
          try go_wp2
          go_ret3
          exact ⟨zE, zH1 HB.out GE293.out⟩
         ·
          rw [if_neg c56] at H; exact absurd H (by simp)
        ·
         rw [if_neg c55] at H; exact absurd H (by simp)

end Go.Proofs.YteooecifecaikaaDoor.ECertSays
