/- The functions that the law comes to, as plain functions, and for each a proof that the Go code comes to just these answers. Written by a program of this claim. Conditions: each theorem bears its own. -/
import Derived.Test.YteooecifecaikaaDoorECertSaysx0
import Derived.Test.YteooecifecaikaaDoorECertSaysx1
namespace Go.Proofs.YteooecifecaikaaDoor.ECertSays
open Go.RowKit Go.Proofs.YteooecifecaikaaDoorW.PrintWords Go.Proofs.YteooecifecaikaaDoorW.PrintLast Go.Proofs.YteooecifecaikaaDoorW.PrintMore Go.Proofs.YteooecifecaikaaDoorW.PrintOpen
attribute [local go_sem] max2_int min2_int max_two min_two max_three min_three max_four min_four   -- for this text's walks alone
set_option linter.unusedVariables false
set_option linter.unusedSimpArgs false

/-! ### lots_worth: function 37 -/
mutual
def lots_worth.l0 : Nat → List Int → List Int → Int → Int → List (S47) → List Int → Int → Option (Int)
 | 0, _, _, _, _, _, _, _ => none
 | k + 1, x5, x15, x16, x17, x110000, x110001, x110002 => if x17 < x16 then (if 0 ≤ x17 then (if x17 < (x15.length : Int) then (if x17 < (x110000.length : Int) then (if 0 ≤ ((rd_T47 x110000 x17).f3) then (if ((rd_T47 x110000 x17).f3) < (x5.length : Int) then (lots_worth.l0 k (x5.set (((rd_T47 x110000 x17).f3) : Int).toNat (wrap64 ((rd x5 ((rd_T47 x110000 x17).f3)) + (wrap64 ((rd x15 x17) * ((rd_T47 x110000 x17).f1)))))) x15 x16 (wrap64 (x17 + 1)) x110000 x110001 x110002) else (none)) else (none)) else (none)) else (none)) else (none)) else (lots_worth.l1 k 0 x5 (x5.length : Int) 0 x110000 x110001 x110002)
def lots_worth.l1 : Nat → Int → List Int → Int → Int → List (S47) → List Int → Int → Option (Int)
 | 0, _, _, _, _, _, _, _ => none
 | k + 1, x8, x42, x43, x44, x110000, x110001, x110002 => if x44 < x43 then (if 0 ≤ x44 then (if x44 < (x42.length : Int) then (if x44 < (x110001.length : Int) then (if (rd x110001 x44) > 0 then (lots_worth.l1 k (wrap64 (x8 + (mn (rd x42 x44) (rd x110001 x44)))) x42 x43 (wrap64 (x44 + 1)) x110000 x110001 x110002) else (lots_worth.l1 k (wrap64 (x8 + (rd x42 x44))) x42 x43 (wrap64 (x44 + 1)) x110000 x110001 x110002)) else (none)) else (none)) else (none)) else (some x8)
end
def lots_worth.f (k : Nat) (l0_0 : List (S47)) (l0_1 : List Int) (a0_2 : Int) (l1 : List Int) : Option (Int) := if 0 ≤ (l0_1.length : Int) then (if ((l0_1.length : Int) : Int).toNat ≤ 35184372088832 then (lots_worth.l0 k (List.replicate ((l0_1.length : Int) : Int).toNat 0) l1 (l1.length : Int) 0 l0_0 l0_1 a0_2) else (none)) else (none)
theorem lots_worth.mono_l : ∀ k, (∀ y0 y1 y2 y3 y4 y5 y6, LeO (lots_worth.l0 k y0 y1 y2 y3 y4 y5 y6) (lots_worth.l0 (k + 1) y0 y1 y2 y3 y4 y5 y6)) ∧ (∀ y0 y1 y2 y3 y4 y5 y6, LeO (lots_worth.l1 k y0 y1 y2 y3 y4 y5 y6) (lots_worth.l1 (k + 1) y0 y1 y2 y3 y4 y5 y6))
 | 0 => ⟨fun _ _ _ _ _ _ _ r h => by simp [lots_worth.l0] at h, fun _ _ _ _ _ _ _ r h => by simp [lots_worth.l1] at h⟩
 | k + 1 => by
  obtain ⟨ih0, ih1⟩ := lots_worth.mono_l k; refine ⟨?_, ?_⟩
  ·
   intro y0 y1 y2 y3 y4 y5 y6; unfold lots_worth.l0
   repeat' first
   | (with_reducible exact ih0 _ _ _ _ _ _ _)
   | (with_reducible exact ih1 _ _ _ _ _ _ _)
   | (with_reducible exact LeO.refl _)
   | (with_reducible exact LeO.none _)
   | (with_reducible refine LeO.ite ?_ ?_)
   | (with_reducible refine LeO.bind ?_ (fun _ => ?_))
   | exact ih0 _ _ _ _ _ _ _
   | exact ih1 _ _ _ _ _ _ _
   | exact LeO.none _
   | refine LeO.ite ?_ ?_
   | refine LeO.bind ?_ (fun _ => ?_)
  ·
   intro y0 y1 y2 y3 y4 y5 y6; unfold lots_worth.l1
   repeat' first
   | (with_reducible exact ih0 _ _ _ _ _ _ _)
   | (with_reducible exact ih1 _ _ _ _ _ _ _)
   | (with_reducible exact LeO.refl _)
   | (with_reducible exact LeO.none _)
   | (with_reducible refine LeO.ite ?_ ?_)
   | (with_reducible refine LeO.bind ?_ (fun _ => ?_))
   | exact ih0 _ _ _ _ _ _ _
   | exact ih1 _ _ _ _ _ _ _
   | exact LeO.none _
   | refine LeO.ite ?_ ?_
   | refine LeO.bind ?_ (fun _ => ?_)
theorem lots_worth.mono : ∀ a0 a1 a2 a3 k, LeO (lots_worth.f k a0 a1 a2 a3) (lots_worth.f (k + 1) a0 a1 a2 a3) := by
 intro a0 a1 a2 a3 k; obtain ⟨ih0, ih1⟩ := lots_worth.mono_l k; unfold lots_worth.f
 repeat' first
   | (with_reducible exact ih0 _ _ _ _ _ _ _)
   | (with_reducible exact ih1 _ _ _ _ _ _ _)
   | (with_reducible exact LeO.refl _)
   | (with_reducible exact LeO.none _)
   | (with_reducible refine LeO.ite ?_ ?_)
   | (with_reducible refine LeO.bind ?_ (fun _ => ?_))
   | exact ih0 _ _ _ _ _ _ _
   | exact ih1 _ _ _ _ _ _ _
   | exact LeO.none _
   | refine LeO.ite ?_ ?_
   | refine LeO.bind ?_ (fun _ => ?_)
def lots_worth.T5 : Bool × List (List Nat × List Nat) := (true, [([], []), ([], []), ([1], [1]), ([], []), ([2, 3], [2, 3]), ([4], [4]), ([5], [5]), ([0, 6], [0, 6]), ([7], [7]), ([], []), ([], []), ([10], [10]), ([], []), ([11, 12], [11, 12]), ([13], [13]), ([14], [14]), ([9, 15], [9, 15]), ([8, 16], [8, 16]), ([0, 6, 0, 1, 2, 3, 4, 5, 6, 7, 8, 9, 10, 11, 12, 13, 14, 15, 16, 17], [0, 6]), ([18, 17, 0, 1, 2, 3, 4, 5, 6, 7, 8, 9, 10, 11, 12, 13, 14, 15, 16, 17], [17, 18])])
def lots_worth.B5 : List Nat := [0, 0, 2, 0, 14, 30, 62, 127, 255, 0, 0, 1024, 0, 7168, 15360, 31744, 65024, 131071, 262143, 524287]
theorem lots_worth.tab5 : rtab .any (opsOf Tryd.f37 5) = lots_worth.T5 := by kernel_rfl
theorem lots_worth.bits5 : waitsOk lots_worth.T5.2 lots_worth.B5 = true := by kernel_rfl
abbrev z1f2f_m0 : Array Bool := (fun o i : Bool => #[o,o,o,o,o,o,o,o,o,o,o,o,o,o,o,o,o,o,o,o]) false true
abbrev z1f2f_m1 : Array Bool := (fun o i : Bool => #[i,o,o,o,o,o,o,o,o,o,o,o,o,o,o,o,o,o,o,o]) false true
abbrev z1f2f_m2 : Array Bool := (fun o i : Bool => #[i,i,o,o,o,o,o,o,o,o,o,o,o,o,o,o,o,o,o,o]) false true
abbrev z1f2f_m3 : Array Bool := (fun o i : Bool => #[i,i,o,i,o,o,o,o,o,o,o,o,o,o,o,o,o,o,o,o]) false true
abbrev z1f2f_m4 : Array Bool := (fun o i : Bool => #[i,i,o,i,o,o,o,o,o,i,o,o,o,o,o,o,o,o,o,o]) false true
abbrev z1f2f_m5 : Array Bool := (fun o i : Bool => #[i,i,o,i,o,o,o,o,o,i,i,o,o,o,o,o,o,o,o,o]) false true
abbrev z1f2f_m6 : Array Bool := (fun o i : Bool => #[i,i,o,i,o,o,o,o,o,i,i,o,i,o,o,o,o,o,o,o]) false true
abbrev z1f2f_m7 : Array Bool := (fun o i : Bool => #[i,i,i,i,o,o,o,o,o,i,i,o,i,o,o,o,o,o,o,o]) false true
abbrev z1f2f_m8 : Array Bool := (fun o i : Bool => #[i,i,i,i,i,o,o,o,o,i,i,o,i,o,o,o,o,o,o,o]) false true
abbrev z1f2f_m9 : Array Bool := (fun o i : Bool => #[i,i,i,i,i,i,o,o,o,i,i,o,i,o,o,o,o,o,o,o]) false true
abbrev z1f2f_m10 : Array Bool := (fun o i : Bool => #[i,i,i,i,i,i,i,o,o,i,i,o,i,o,o,o,o,o,o,o]) false true
abbrev z1f2f_m11 : Array Bool := (fun o i : Bool => #[i,i,i,i,i,i,i,i,o,i,i,o,i,o,o,o,o,o,o,o]) false true
abbrev z1f2f_m12 : Array Bool := (fun o i : Bool => #[i,i,i,i,i,i,i,i,i,i,i,o,i,o,o,o,o,o,o,o]) false true
abbrev z1f2f_m13 : Array Bool := (fun o i : Bool => #[i,i,i,i,i,i,i,i,i,i,i,i,i,o,o,o,o,o,o,o]) false true
abbrev z1f2f_m14 : Array Bool := (fun o i : Bool => #[i,i,i,i,i,i,i,i,i,i,i,i,i,i,o,o,o,o,o,o]) false true
abbrev z1f2f_m15 : Array Bool := (fun o i : Bool => #[i,i,i,i,i,i,i,i,i,i,i,i,i,i,i,o,o,o,o,o]) false true
abbrev z1f2f_m16 : Array Bool := (fun o i : Bool => #[i,i,i,i,i,i,i,i,i,i,i,i,i,i,i,i,o,o,o,o]) false true
abbrev z1f2f_m17 : Array Bool := (fun o i : Bool => #[i,i,i,i,i,i,i,i,i,i,i,i,i,i,i,i,i,o,o,o]) false true
abbrev z1f2f_m18 : Array Bool := (fun o i : Bool => #[i,i,i,i,i,i,i,i,i,i,i,i,i,i,i,i,i,i,o,o]) false true
abbrev z1f2f_m19 : Array Bool := (fun o i : Bool => #[i,i,i,i,i,i,i,i,i,i,i,i,i,i,i,i,i,i,i,o]) false true
abbrev z1f2f_m20 : Array Bool := (fun o i : Bool => #[i,i,i,i,i,i,i,i,i,i,i,i,i,i,i,i,i,i,i,i]) false true
set_option maxHeartbeats 8000000 in
set_option maxRecDepth 100000 in
theorem lots_worth.calls [Inhabited (Int → Addr)] (k : Nat) (A0_0 : Option Addr) (c0_0 : Nat) (l0_0 : List (S47)) (A0_1 : Option Addr) (c0_1 : Nat) (l0_1 : List Int) (a0_2 : Int) (A1 : Option Addr) (c1 : Nat) (l1 : List Int) (r : Int) (w : World) (hr0_0 : Kd.C k47 w A0_0 l0_0.length l0_0) (hc0_0 : l0_0.length ≤ c0_0) (hr0_1 : Kd.C (Kd.int .i64) w A0_1 l0_1.length l0_1) (hc0_1 : l0_1.length ≤ c0_1) (hr1 : Kd.C (Kd.int .i64) w A1 l1.length l1) (hc1 : l1.length ≤ c1) (h : lots_worth.f k l0_0 l0_1 a0_2 l1 = some r) :
  Calls Tryd.prog 37 #[.agg #[.slice A0_0 l0_0.length c0_0, .slice A0_1 l0_1.length c0_1, .int .i64 a0_2], .slice A1 l1.length c1] w fun e w' => e = .returned (.int .i64 r) ∧ Below w.heap.size w w' := by
 have hu25 := Tryd.underlying25; have HR0_0 := Aside0.mk hr0_0; have HC0_0 := Aside0.mk hc0_0; clear hr0_0 hc0_0; have HR0_1 := Aside0.mk hr0_1; have HC0_1 := Aside0.mk hc0_1; clear hr0_1 hc0_1; have HR1 := Aside0.mk hr1; have HC1 := Aside0.mk hc1; clear hr1 hc1; have HB := Aside0.mk (Below.refl w.heap.size w); have H : (if 0 ≤ (l0_1.length : Int) then (if ((l0_1.length : Int) : Int).toNat ≤ 35184372088832 then (lots_worth.l0 k (List.replicate ((l0_1.length : Int) : Int).toNat 0) l1 (l1.length : Int) 0 l0_0 l0_1 a0_2) else (none)) else (none)) = some r := h; clear h; by_cases c3 : 0 ≤ (l0_1.length : Int)
 ·
  rw [if_pos c3] at H; have c3b0 := eq_true c3; have c3b1 : decide (0 ≤ (l0_1.length : Int)) = true := decide_eq_true c3; clear c3; by_cases c4 : ((l0_1.length : Int) : Int).toNat ≤ 35184372088832
  ·
   rw [if_pos c4] at H; have c4b0 := eq_true c4; have c4b1 : decide (((l0_1.length : Int) : Int).toNat ≤ 35184372088832) = true := decide_eq_true c4; clear c4; obtain ⟨y110, hy110⟩ : ∃ y_ : List Int, y_ = (List.replicate ((l0_1.length : Int) : Int).toNat 0) := ⟨_, rfl⟩; replace H : (lots_worth.l0 k y110 l1 (l1.length : Int) 0 l0_0 l0_1 a0_2) = some r := by first | (rw [hy110]; with_reducible exact H) | (have H2_ := (Option.bind_some _ _).symm.trans H; rw [hy110]; with_reducible exact H2_) | (have H2_ := (Option.bind_some _ _).symm.trans H; with_reducible exact H2_) | with_reducible exact H | (rw [hy110]; exact H) | exact H
   have Ny110 := Aside0.mk hy110; clear hy110; have H' := Aside0.mk H; clear H
   go_enter Tryd.func37, Tryd.ntmps37
   go_wp2_with (first | ((with_reducible refine gate_dst (N := 2) rfl ?_); refine box_event ?hg (N := 2) ?hd (cs := #[.slice A0_0 l0_0.length c0_0, .slice A0_1 l0_1.length c0_1, .int .i64 a0_2]) (t := 25) ?hr ?_; (case hd => rfl); (case hg => rfl); (case hr => first | (go_simp; done) | (go_simp; rfl)); intro gb109 hg w5 hbox hb; have n0_ := Aside0.mk (below_step (zH HB.out) hb); have n1_ := Aside0.mk (hbox); have n2_ := Aside0.mk (zg hg (below_size (zH HB.out)) : w.heap.size ≤ gb109); have n3_ := Aside0.mk (zg hg (below_size (zH HB.out)) : w.heap.size ≤ gb109); clear HB; have HB := n0_; have BK109 := n1_; have GW109 := n2_; have GE109 := n3_; clear n0_ n1_ n2_ n3_; clear hb hbox hg; have hcz6_0 : w5.cell? ⟨gb109, 0, none⟩ = some (.slice A0_0 l0_0.length c0_0) := (blk_cell BK109.out 0).trans rfl; have hcz6_1 : w5.cell? ⟨gb109, 1, none⟩ = some (.slice A0_1 l0_1.length c0_1) := (blk_cell BK109.out 1).trans rfl; have hcz6_2 : w5.cell? ⟨gb109, 2, none⟩ = some (.int .i64 a0_2) := (blk_cell BK109.out 2).trans rfl; have hfz6_0 := blk_frozen BK109.out 0; have hfz6_1 := blk_frozen BK109.out 1; have hfz6_2 := blk_frozen BK109.out 2) | ((with_reducible refine gate_dst (N := 14) rfl ?_); refine Kd.R_make (Kd.int .i64) _ 2 rfl (N := 14) rfl 23 _ _ rfl (l0_1.length : Int) rfl rfl Tryd.underlying23 (.int .i64 0) 8 info2 rfl (by decide) (by omega) 0 (ok := fun _ => True) (okp := fun _ => True) rfl (fun _ hk => hk) trivial (of_decide_eq_true zA) (Nat.le_trans (Nat.mul_le_mul_right _ (of_decide_eq_true zA : (l0_1.length : Int).toNat ≤ 35184372088832)) (by omega)) (Below.refl _ _) (Nat.le_refl _) ?_; intro v111 w7 ho8 hb hg_ hnew_; clear hg_ hnew_; (first | rw [← Ny110.out] at ho8 | (simp only [Int.reduceToNat] at ho8; rw [← Ny110.out] at ho8)); have n0_ := Aside0.mk (Kd.R_lower ho8 (below_size (zH1 HB.out GE109.out))); have n1_ := zBB BK109 hb; have n2_ := Aside0.mk (below_step (zH1 HB.out GE109.out) hb); clear BK109; clear HB; have HO112 := n0_; have BK109 := n1_; have HB := n2_; clear n0_ n1_ n2_; clear hb ho8))
   go_loopg [17] k (fun kq v17 w' => ∃ (x5_1 : List Int) (x17_1 : Int), v17 = .int .i64 x17_1 ∧ Aside0 (lots_worth.l0 kq x5_1 l1 (l1.length : Int) x17_1 l0_0 l0_1 a0_2 = some r) ∧ Aside0 (kq ≤ k) ∧ Aside0 (Kd.R (Kd.int .i64) 2 w' w.heap.size (fun _ => True) v111 x5_1) ∧ Aside0 (w'.heap[gb109]? = some (.cells #[(.slice A0_0 l0_0.length c0_0), (.slice A0_1 l0_1.length c0_1), .int .i64 a0_2] 25 (0, 0))) ∧ Aside0 (Below w.heap.size w w'))
   case atStart => exact ⟨(y110), (0), zS, H', ⟨Nat.le_refl _⟩, ⟨by (with_reducible repeat (first | apply Kd.R_alloc | apply Kd.R_drewN | apply Kd.R_drew)); exact HO112.out⟩, ⟨zB BK109.out⟩, ⟨zH1 HB.out GE109.out⟩⟩
   case round =>
    clear H'
    try clear c1
    try clear p2
    try clear c3
    try clear c3b0
    try clear c3b1
    try clear c4
    try clear c4b0
    try clear c4b1
    try clear hcz6_0
    try clear hcz6_1
    try clear hcz6_2
    try clear hfz6_0
    try clear hfz6_1
    try clear hfz6_2
    obtain ⟨x5_1, x17_1, rfl, HA, HK1, HO_5, BK109, HB⟩ := hrel
    cases gk with
    | zero => exact absurd HA.out (by simp [lots_worth.l0])
    | succ k1 =>
     have H := HA.out; clear HA; simp only [lots_worth.l0] at H; by_cases c9 : x17_1 < (l1.length : Int)
     ·
      rw [if_pos c9] at H; have c9b0 : decide (x17_1 < (l1.length : Int)) = true := decide_eq_true c9; clear c9; by_cases c10 : 0 ≤ x17_1
      ·
       rw [if_pos c10] at H; have c10b0 : decide (0 ≤ x17_1) = true := decide_eq_true c10; clear c10; by_cases c11 : x17_1 < (l1.length : Int)
       ·
        rw [if_pos c11] at H; have c11b0 : decide (x17_1 < (l1.length : Int)) = true := decide_eq_true c11; clear c11; by_cases c12 : x17_1 < (l0_0.length : Int)
        ·
         rw [if_pos c12] at H; have c12b0 : decide (x17_1 < (l0_0.length : Int)) = true := decide_eq_true c12; clear c12; by_cases c13 : 0 ≤ ((rd_T47 l0_0 x17_1).f3)
         ·
          rw [if_pos c13] at H; have c13b0 : decide (0 ≤ ((rd_T47 l0_0 x17_1).f3)) = true := decide_eq_true c13; clear c13; by_cases c14 : ((rd_T47 l0_0 x17_1).f3) < (x5_1.length : Int)
          ·
           rw [if_pos c14] at H; have c14b0 : decide (((rd_T47 l0_0 x17_1).f3) < (x5_1.length : Int)) = true := decide_eq_true c14; clear c14; obtain ⟨y117, hy117⟩ : ∃ y_ : List Int, y_ = (x5_1.set (((rd_T47 l0_0 x17_1).f3) : Int).toNat (wrap64 ((rd x5_1 ((rd_T47 l0_0 x17_1).f3)) + (wrap64 ((rd l1 x17_1) * ((rd_T47 l0_0 x17_1).f1)))))) := ⟨_, rfl⟩; replace H : (lots_worth.l0 k1 y117 l1 (l1.length : Int) (wrap64 (x17_1 + 1)) l0_0 l0_1 a0_2) = some r := by first | (rw [hy117]; with_reducible exact H) | (have H2_ := (Option.bind_some _ _).symm.trans H; rw [hy117]; with_reducible exact H2_) | (have H2_ := (Option.bind_some _ _).symm.trans H; with_reducible exact H2_) | with_reducible exact H | (rw [hy117]; exact H) | exact H
           have Ny117 := Aside0.mk hy117; clear hy117; have H' := Aside0.mk H; clear H; have p113 : 0 ≤ (x17_1 : Int) := of_decide_eq_true zA; have q113 : x17_1 < (l1.length : Int) := of_decide_eq_true zA; obtain ⟨ad113, e113, hx113_0⟩ := Kd.at_int HR1.out x17_1 p113 q113
           cases e113
           replace hx113_0 := (HB.out.cell (World.block_lt_of_cell? w _ hx113_0)).trans hx113_0; replace p113 := eq_true p113; replace q113 := eq_true q113
           try go_wp2
           have n0_ := Aside0.mk (Kd.R_drew HO_5.out); have n1_ := Aside0.mk (blk_drew BK109.out); have n2_ := Aside0.mk (below_drew1 HB.out); clear HO_5; clear BK109; clear HB; have HO_5 := n0_; have BK109 := n1_; have HB := n2_; clear n0_ n1_ n2_; have p114 : 0 ≤ (x17_1 : Int) := of_decide_eq_true zA; have q114 : x17_1 < (l0_0.length : Int) := of_decide_eq_true zA; obtain ⟨ad114, e114, hx114_0, hx114_1, hx114_2, hx114_3⟩ := at_T47 HR0_0.out x17_1 p114 q114; have hw114_3 := hx114_3; have hw114_2 := hx114_2; have hw114_1 := hx114_1; have hw114_0 := hx114_0
           cases e114
           replace hx114_0 := (HB.out.cell (World.block_lt_of_cell? w _ hx114_0)).trans hx114_0; replace hx114_1 := (HB.out.cell (World.block_lt_of_cell? w _ hx114_1)).trans hx114_1; replace hx114_2 := (HB.out.cell (World.block_lt_of_cell? w _ hx114_2)).trans hx114_2; replace hx114_3 := (HB.out.cell (World.block_lt_of_cell? w _ hx114_3)).trans hx114_3; replace p114 := eq_true p114; replace q114 := eq_true q114; obtain ⟨Ao17, co17, eo17⟩ := Kd.R_slice HO_5.out
           (first | subst eo17 | (injection eo17 with f1_ f2_ f3_; have f4_ := f1_.symm; have f5_ := f3_.symm; clear f1_ f2_ f3_; subst f4_; subst f5_))
           have p115 : 0 ≤ (((rd_T47 l0_0 x17_1).f3) : Int) := of_decide_eq_true zA; have q115 : ((rd_T47 l0_0 x17_1).f3) < (x5_1.length : Int) := of_decide_eq_true zA; obtain ⟨ad115, e115, hx115_0⟩ := Kd.at_int (Kd.R_reads' HO_5.out).2.2 ((rd_T47 l0_0 x17_1).f3) p115 q115
           cases e115
           replace p115 := eq_true p115; replace q115 := eq_true q115; have p116 : 0 ≤ (x17_1 : Int) := of_decide_eq_true zA; have q116 : x17_1 < (l0_0.length : Int) := of_decide_eq_true zA; obtain ⟨ad116, e116, hx116_0, hx116_1, hx116_2, hx116_3⟩ := at_T47 HR0_0.out x17_1 p116 q116; have hw116_3 := hx116_3; have hw116_2 := hx116_2; have hw116_1 := hx116_1; have hw116_0 := hx116_0; obtain rfl : ad114 = ad116 := (by injection e116); replace hx116_0 := (HB.out.cell (World.block_lt_of_cell? w _ hx116_0)).trans hx116_0; replace hx116_1 := (HB.out.cell (World.block_lt_of_cell? w _ hx116_1)).trans hx116_1; replace hx116_2 := (HB.out.cell (World.block_lt_of_cell? w _ hx116_2)).trans hx116_2; replace hx116_3 := (HB.out.cell (World.block_lt_of_cell? w _ hx116_3)).trans hx116_3; replace p116 := eq_true p116; replace q116 := eq_true q116; have p15 : 0 ≤ (((rd_T47 l0_0 x17_1).f3) : Int) := of_decide_eq_true zA; have q15 : (((rd_T47 l0_0 x17_1).f3) : Int) < ((x5_1.length : Int) : Int) := of_decide_eq_true zA; obtain ⟨go15, co15, eo15, gb15, gl15, cl15, HG15⟩ := Kd.R_form HO_5.out (by omega)
           (first | cases eo15 | (injection eo15 with ea_ en_ ec_; (first | subst ea_ | (injection ea_ with ea_; subst ea_)); subst ec_; clear en_))
           have GB15 := Aside0.mk gb15; have GG15 := Aside0.mk HG15; clear gb15 gl15 HG15
           (first | simp only [add_plain] at hx115_0 | skip)
           obtain ⟨hx15_0, hf15_0⟩ := Kd.R_celln 0 HO_5.out (((rd_T47 l0_0 x17_1).f3) : Int) p15 q15; replace p15 := eq_true p15; replace q15 := eq_true q15; have HP18 := Kd.R_putn HO_5.out (((rd_T47 l0_0 x17_1).f3) : Int) (wrap64 ((rd x5_1 ((rd_T47 l0_0 x17_1).f3)) + (wrap64 ((rd l1 x17_1) * ((rd_T47 l0_0 x17_1).f1))))); rw [← Ny117.out] at HP18; have HQ18 := Aside0.mk HP18; clear HP18; refine start_ (n := 20) (S := fun w' => w'.cell? ⟨gb109, 0, none⟩ = some (.slice (some ad114) l0_0.length c0_0) ∧ w'.cell? ⟨gb109, 1, none⟩ = some (.slice A0_1 l0_1.length c0_1) ∧ w'.cell? ⟨gb109, 2, none⟩ = some (.int .i64 a0_2) ∧ w'.cell? (ad114.add ((x17_1).toNat * 4)) = some (.int .i64 ((rd_T47 l0_0 x17_1).f0)) ∧ w'.cell? ⟨(ad114.add ((x17_1).toNat * 4)).block, (ad114.add ((x17_1).toNat * 4)).off + 1, none⟩ = some (.int .i64 ((rd_T47 l0_0 x17_1).f1)) ∧ w'.cell? ⟨(ad114.add ((x17_1).toNat * 4)).block, (ad114.add ((x17_1).toNat * 4)).off + 2, none⟩ = some (.int .i64 ((rd_T47 l0_0 x17_1).f2)) ∧ w'.cell? ⟨(ad114.add ((x17_1).toNat * 4)).block, (ad114.add ((x17_1).toNat * 4)).off + 3, none⟩ = some (.int .i64 ((rd_T47 l0_0 x17_1).f3)) ∧ w'.cell? ⟨go15, (((rd_T47 l0_0 x17_1).f3)).toNat, none⟩ = some (.int .i64 (rd x5_1 ((rd_T47 l0_0 x17_1).f3))) ∧ w'.cell? (ad114.add ((x17_1).toNat * 4)) = some (.int .i64 ((rd_T47 l0_0 x17_1).f0)) ∧ w'.cell? ⟨(ad114.add ((x17_1).toNat * 4)).block, (ad114.add ((x17_1).toNat * 4)).off + 1, none⟩ = some (.int .i64 ((rd_T47 l0_0 x17_1).f1)) ∧ w'.cell? ⟨(ad114.add ((x17_1).toNat * 4)).block, (ad114.add ((x17_1).toNat * 4)).off + 2, none⟩ = some (.int .i64 ((rd_T47 l0_0 x17_1).f2)) ∧ w'.cell? ⟨(ad114.add ((x17_1).toNat * 4)).block, (ad114.add ((x17_1).toNat * 4)).off + 3, none⟩ = some (.int .i64 ((rd_T47 l0_0 x17_1).f3))) (ds := [19]) z1f2f_m0 (by kernel_rfl) rfl rfl ⟨(blk_cell BK109.out 0).trans rfl, (blk_cell BK109.out 1).trans rfl, (blk_cell BK109.out 2).trans rfl, ((HB.out.cell (World.block_lt_of_cell? w _ hw114_0)).trans hw114_0), ((HB.out.cell (World.block_lt_of_cell? w _ hw114_1)).trans hw114_1), ((HB.out.cell (World.block_lt_of_cell? w _ hw114_2)).trans hw114_2), ((HB.out.cell (World.block_lt_of_cell? w _ hw114_3)).trans hw114_3), hx115_0, ((HB.out.cell (World.block_lt_of_cell? w _ hw116_0)).trans hw116_0), ((HB.out.cell (World.block_lt_of_cell? w _ hw116_1)).trans hw116_1), ((HB.out.cell (World.block_lt_of_cell? w _ hw116_2)).trans hw116_2), ((HB.out.cell (World.block_lt_of_cell? w _ hw116_3)).trans hw116_3)⟩ (fun hHeld => ?_); refine with_tabW lots_worth.tab5 lots_worth.bits5 (fun HT_ HW_ => ?_); generalize wr.drew = w16 at HO_5 BK109 HB GG15 HQ18 hf15_0 hx114_0 hx114_1 hx114_2 hx114_3 hx115_0 hx116_0 hx116_1 hx116_2 hx116_3 hx15_0 hHeld ⊢; refine zU 0 22 z1f2f_m1 HT_ ?_; refine zU 1 23 z1f2f_m2 HT_ ?_; refine zU 3 25 z1f2f_m3 HT_ ?_; refine zU 9 31 z1f2f_m4 HT_ ?_; refine zU 10 32 z1f2f_m5 HT_ ?_; refine zU 12 34 z1f2f_m6 HT_ ?_; refine take_ (i := 2) (N := some 24) (v := ?_) (a' := ?_) z1f2f_m7 rfl rfl (take_ofW HT_.out HW_.out (by kernel_rfl)) (fun _ _ _ h => h) (Or.inl ⟨by rfl, ?_⟩) hHeld ?_ ?_; rotate_left
           ·
            rintro w' ⟨s0, s1, s2, s3, s4, s5, s6, s7, s8, s9, s10, s11⟩; go_simp
            with_reducible rfl
           rotate_left
           · simp only [Act.put, zq1, zq2, zq3, i64_w, i32_w]; rfl
           refine zU 4 26 z1f2f_m8 HT_ ?_; refine zU 5 27 z1f2f_m9 HT_ ?_; refine take_ (i := 6) (N := some 28) (v := ?_) (a' := ?_) z1f2f_m10 rfl rfl (take_ofW HT_.out HW_.out (by kernel_rfl)) (fun _ _ _ h => h) (Or.inl ⟨by rfl, ?_⟩) hHeld ?_ ?_; rotate_left
           ·
            rintro w' ⟨s0, s1, s2, s3, s4, s5, s6, s7, s8, s9, s10, s11⟩; go_simp
            with_reducible rfl
           rotate_left
           · simp only [Act.put, zq1, zq2, zq3, i64_w, i32_w]; rfl
           refine zU 7 29 z1f2f_m11 HT_ ?_; refine take_ (i := 8) (N := some 30) (v := ?_) (a' := ?_) z1f2f_m12 rfl rfl (take_ofW HT_.out HW_.out (by kernel_rfl)) (fun _ _ _ h => h) (Or.inl ⟨by rfl, ?_⟩) hHeld ?_ ?_; rotate_left
           ·
            rintro w' ⟨s0, s1, s2, s3, s4, s5, s6, s7, s8, s9, s10, s11⟩; go_simp
            with_reducible rfl
           rotate_left
           · simp only [Act.put, zq1, zq2, zq3, i64_w, i32_w]; rfl
           refine take_ (i := 11) (N := some 33) (v := ?_) (a' := ?_) z1f2f_m13 rfl rfl (take_ofW HT_.out HW_.out (by kernel_rfl)) (fun _ _ _ h => h) (Or.inl ⟨by rfl, ?_⟩) hHeld ?_ ?_; rotate_left
           ·
            rintro w' ⟨s0, s1, s2, s3, s4, s5, s6, s7, s8, s9, s10, s11⟩; go_simp
            with_reducible rfl
           rotate_left
           · simp only [Act.put, zq1, zq2, zq3, i64_w, i32_w]; rfl
           refine zU 13 35 z1f2f_m14 HT_ ?_; refine zU 14 36 z1f2f_m15 HT_ ?_; refine take_ (i := 15) (N := some 37) (v := ?_) (a' := ?_) z1f2f_m16 rfl rfl (take_ofW HT_.out HW_.out (by kernel_rfl)) (fun _ _ _ h => h) (Or.inl ⟨by rfl, ?_⟩) hHeld ?_ ?_; rotate_left
           ·
            rintro w' ⟨s0, s1, s2, s3, s4, s5, s6, s7, s8, s9, s10, s11⟩; go_simp
            with_reducible rfl
           rotate_left
           · simp only [Act.put, zq1, zq2, zq3, i64_w, i32_w]; rfl
           refine zU 16 38 z1f2f_m17 HT_ ?_; refine zU 17 39 z1f2f_m18 HT_ ?_; refine zU 18 40 z1f2f_m19 HT_ ?_; refine last_ (i := 19) (N := none) z1f2f_m20 rfl rfl (one_of HT_.out (by kernel_rfl)) (by decide) (fun K hK => ?_); refine skip_ (w1 := ?_) (by rfl) rfl ?_ ?_; rotate_left
           ·
            go_simp; rfl
           refine hK.out _ _ ?_; clear hK K; refine done_ (done_of HT_.out (by kernel_rfl)) ?_
           try go_wp2
           go_roundg k1
           case measure => have := HK1.out; omega
           case rel => exact ⟨(y117), (wrap64 (x17_1 + 1)), zS, H', ⟨by have := HK1.out; omega⟩, ⟨by (with_reducible repeat (first | apply Kd.R_alloc | apply Kd.R_drewN | apply Kd.R_drew)); exact HQ18.out⟩, ⟨by (with_reducible repeat (first | refine blk_drewN ?_ _ | refine blk_drew ?_ | refine blk_alloc ?_ _)); refine blk_far ?_ (by have h_ := Kd.R_ne HO_5.out BK109.out (by decide); intro e_; exact h_ (by rw [e_]; rfl)) _; (with_reducible repeat (first | refine blk_drewN ?_ _ | refine blk_drew ?_ | refine blk_alloc ?_ _)); exact BK109.out⟩, ⟨zH2 HB.out GB15.out GE109.out⟩⟩
          ·
           rw [if_neg c14] at H; exact absurd H (by simp)
         ·
          rw [if_neg c13] at H; exact absurd H (by simp)
        ·
         rw [if_neg c12] at H; exact absurd H (by simp)
       ·
        rw [if_neg c11] at H; exact absurd H (by simp)
      ·
       rw [if_neg c10] at H; exact absurd H (by simp)
     ·
      rw [if_neg c9] at H; have c9b0 : decide (x17_1 < (l1.length : Int)) = false := decide_eq_false c9; clear c9; have H' := Aside0.mk H; clear H; obtain ⟨Ao19, co19, eo19⟩ := Kd.R_slice HO_5.out; subst eo19
      go_wp2
      go_loopg [8, 44] k1 (fun kq v8 v44 w' => ∃ (x8_2 : Int) (x44_2 : Int), v8 = .int .i64 x8_2 ∧ v44 = .int .i64 x44_2 ∧ Aside0 (lots_worth.l1 kq x8_2 x5_1 (x5_1.length : Int) x44_2 l0_0 l0_1 a0_2 = some r) ∧ Aside0 (kq ≤ k1) ∧ Aside0 (Kd.R (Kd.int .i64) 2 w' w.heap.size (fun _ => True) (.slice Ao19 x5_1.length co19) x5_1) ∧ Aside0 (w'.heap[gb109]? = some (.cells #[(.slice A0_0 l0_0.length c0_0), (.slice A0_1 l0_1.length c0_1), .int .i64 a0_2] 25 (0, 0))) ∧ Aside0 (Below w.heap.size w w'))
      case atStart => exact ⟨(0), (0), zS, zS, H', ⟨Nat.le_refl _⟩, ⟨by (with_reducible repeat (first | apply Kd.R_alloc | apply Kd.R_drewN | apply Kd.R_drew)); exact HO_5.out⟩, ⟨zB BK109.out⟩, ⟨zH1 HB.out GE109.out⟩⟩
      case round =>
       clear H'
       try clear c1
       try clear p1
       try clear q1
       try clear hx1
       try clear p2
       try clear c3
       try clear c3b0
       try clear c3b1
       try clear c4
       try clear c4b0
       try clear c4b1
       try clear p6
       try clear c9
       try clear c9b0
       try clear c10
       try clear c10b0
       try clear c11
       try clear c11b0
       try clear p11
       try clear q11
       try clear hx11
       try clear c12
       try clear c12b0
       try clear c13
       try clear c13b0
       try clear c14
       try clear c14b0
       try clear p15
       try clear q15
       try clear hx15
       try clear hf15
       try clear hcz6_0
       try clear hcz6_1
       try clear hcz6_2
       try clear hfz6_0
       try clear hfz6_1
       try clear hfz6_2
       try clear hx113_0
       try clear hx114_0
       try clear hx114_1
       try clear hx114_2
       try clear hx114_3
       try clear hx115_0
       try clear hx116_0
       try clear hx116_1
       try clear hx116_2
       try clear hx116_3
       try clear hx15_0
       try clear p113
       try clear p114
       try clear p115
       try clear p116
       try clear p15
       try clear p2
       try clear q113
       try clear q114
       try clear q115
       try clear q116
       try clear q15
       obtain ⟨x8_2, x44_2, rfl, rfl, HA, HK2, HO_42, BK109, HB⟩ := hrel
       cases gk with
       | zero => exact absurd HA.out (by simp [lots_worth.l1])
       | succ k2 =>
        have H := HA.out; clear HA; simp only [lots_worth.l1] at H; by_cases c20 : x44_2 < (x5_1.length : Int)
        ·
         rw [if_pos c20] at H; have c20b0 : decide (x44_2 < (x5_1.length : Int)) = true := decide_eq_true c20; clear c20; by_cases c21 : 0 ≤ x44_2
         ·
          rw [if_pos c21] at H; have c21b0 : decide (0 ≤ x44_2) = true := decide_eq_true c21; clear c21; by_cases c22 : x44_2 < (x5_1.length : Int)
          ·
           rw [if_pos c22] at H; have c22b0 : decide (x44_2 < (x5_1.length : Int)) = true := decide_eq_true c22; clear c22; by_cases c23 : x44_2 < (l0_1.length : Int)
           ·
            rw [if_pos c23] at H; have c23b0 : decide (x44_2 < (l0_1.length : Int)) = true := decide_eq_true c23; clear c23; by_cases c24 : (rd l0_1 x44_2) > 0
            ·
             rw [if_pos c24] at H; have c24b0 : decide (0 < (rd l0_1 x44_2)) = true := decide_eq_true c24; clear c24; obtain ⟨ji25, hji25⟩ : ∃ j_ : Int, (mn (rd x5_1 x44_2) (rd l0_1 x44_2)) = j_ := ⟨_, rfl⟩; replace H : (lots_worth.l1 k2 (wrap64 (x8_2 + (ji25))) x5_1 (x5_1.length : Int) (wrap64 (x44_2 + 1)) l0_0 l0_1 a0_2) = some r := by first | (rw [hji25] at H; exact H) | (simp only [hji25] at H ⊢; exact H)
             have hji25_ : (if (rd l0_1 x44_2) < (rd x5_1 x44_2) then (rd l0_1 x44_2) else (rd x5_1 x44_2)) = ji25 := hji25; have H' := Aside0.mk H; clear H; have p118 : 0 ≤ (x44_2 : Int) := of_decide_eq_true zA; have q118 : x44_2 < (x5_1.length : Int) := of_decide_eq_true zA; obtain ⟨ad118, e118, hx118_0⟩ := Kd.at_int (Kd.R_reads' HO_42.out).2.2 x44_2 p118 q118
             cases e118
             replace p118 := eq_true p118; replace q118 := eq_true q118; have hcz26_0 : wr.cell? ⟨gb109, 0, none⟩ = some (.slice A0_0 l0_0.length c0_0) := (blk_cell BK109.out 0).trans rfl; have hcz26_1 : wr.cell? ⟨gb109, 1, none⟩ = some (.slice A0_1 l0_1.length c0_1) := (blk_cell BK109.out 1).trans rfl; have hcz26_2 : wr.cell? ⟨gb109, 2, none⟩ = some (.int .i64 a0_2) := (blk_cell BK109.out 2).trans rfl; have hfz26_0 := blk_frozen BK109.out 0; have hfz26_1 := blk_frozen BK109.out 1; have hfz26_2 := blk_frozen BK109.out 2; have p119 : 0 ≤ (x44_2 : Int) := of_decide_eq_true zA; have q119 : x44_2 < (l0_1.length : Int) := of_decide_eq_true zA; obtain ⟨ad119, e119, hx119_0⟩ := Kd.at_int HR0_1.out x44_2 p119 q119
             cases e119
             replace hx119_0 := (HB.out.cell (World.block_lt_of_cell? w _ hx119_0)).trans hx119_0; replace p119 := eq_true p119; replace q119 := eq_true q119; have p120 : 0 ≤ (x44_2 : Int) := of_decide_eq_true zA; have q120 : x44_2 < (l0_1.length : Int) := of_decide_eq_true zA; obtain ⟨ad120, e120, hx120_0⟩ := Kd.at_int HR0_1.out x44_2 p120 q120; obtain rfl : ad119 = ad120 := (by injection e120); replace hx120_0 := (HB.out.cell (World.block_lt_of_cell? w _ hx120_0)).trans hx120_0; replace p120 := eq_true p120; replace q120 := eq_true q120
             go_wp2
             go_roundg k2
             case measure => have := HK1.out; have := HK2.out; omega
             case rel => exact ⟨(wrap64 (x8_2 + (ji25))), (wrap64 (x44_2 + 1)), (by first | rfl | (simp; done) | (simp only [← hji25] <;> (first | rfl | simp)) | (simp [*]; done)), zS, H', ⟨by have := HK1.out; have := HK2.out; omega⟩, ⟨by (with_reducible repeat (first | apply Kd.R_alloc | apply Kd.R_drewN | apply Kd.R_drew)); exact HO_42.out⟩, ⟨zB BK109.out⟩, ⟨zH1 HB.out GE109.out⟩⟩
            ·
             rw [if_neg c24] at H; have c24b0 : decide (0 < (rd l0_1 x44_2)) = false := decide_eq_false c24; clear c24; have H' := Aside0.mk H; clear H; have p118 : 0 ≤ (x44_2 : Int) := of_decide_eq_true zA; have q118 : x44_2 < (x5_1.length : Int) := of_decide_eq_true zA; obtain ⟨ad118, e118, hx118_0⟩ := Kd.at_int (Kd.R_reads' HO_42.out).2.2 x44_2 p118 q118
             cases e118
             replace p118 := eq_true p118; replace q118 := eq_true q118; have hcz27_0 : wr.cell? ⟨gb109, 0, none⟩ = some (.slice A0_0 l0_0.length c0_0) := (blk_cell BK109.out 0).trans rfl; have hcz27_1 : wr.cell? ⟨gb109, 1, none⟩ = some (.slice A0_1 l0_1.length c0_1) := (blk_cell BK109.out 1).trans rfl; have hcz27_2 : wr.cell? ⟨gb109, 2, none⟩ = some (.int .i64 a0_2) := (blk_cell BK109.out 2).trans rfl; have hfz27_0 := blk_frozen BK109.out 0; have hfz27_1 := blk_frozen BK109.out 1; have hfz27_2 := blk_frozen BK109.out 2; have p119 : 0 ≤ (x44_2 : Int) := of_decide_eq_true zA; have q119 : x44_2 < (l0_1.length : Int) := of_decide_eq_true zA; obtain ⟨ad119, e119, hx119_0⟩ := Kd.at_int HR0_1.out x44_2 p119 q119
             cases e119
             replace hx119_0 := (HB.out.cell (World.block_lt_of_cell? w _ hx119_0)).trans hx119_0; replace p119 := eq_true p119; replace q119 := eq_true q119
             go_wp2
             go_roundg k2
             case measure => have := HK1.out; have := HK2.out; omega
             case rel => exact ⟨(wrap64 (x8_2 + (rd x5_1 x44_2))), (wrap64 (x44_2 + 1)), zS, zS, H', ⟨by have := HK1.out; have := HK2.out; omega⟩, ⟨by (with_reducible repeat (first | apply Kd.R_alloc | apply Kd.R_drewN | apply Kd.R_drew)); exact HO_42.out⟩, ⟨zB BK109.out⟩, ⟨zH1 HB.out GE109.out⟩⟩
           ·
            rw [if_neg c23] at H; exact absurd H (by simp)
          ·
           rw [if_neg c22] at H; exact absurd H (by simp)
         ·
          rw [if_neg c21] at H; exact absurd H (by simp)
        ·
         rw [if_neg c20] at H; have c20b0 : decide (x44_2 < (x5_1.length : Int)) = false := decide_eq_false c20; clear c20; obtain rfl := Option.some.inj H
         go_wp2
         go_ret
         exact ⟨zE, zH1 HB.out GE109.out⟩
  ·
   rw [if_neg c4] at H; exact absurd H (by simp)
 ·
  rw [if_neg c3] at H; exact absurd H (by simp)

/-! ### lots_Worth: function 21 -/
def lots_Worth.f (k : Nat) (l0_0 : List (S47)) (l0_1 : List Int) (a0_2 : Int) (l1 : List Int) : Option (Int × Bool) := (lots_fits.f k l0_0 l0_1 a0_2 l1).bind fun t122 => (if t122 = true then ((lots_worth.f k l0_0 l0_1 a0_2 l1).bind fun t123 => (some (t123, true))) else (some (0, false)))
theorem lots_Worth.mono : ∀ a0 a1 a2 a3 k, LeO (lots_Worth.f k a0 a1 a2 a3) (lots_Worth.f (k + 1) a0 a1 a2 a3) := by
  intro a0 a1 a2 a3 k; unfold lots_Worth.f
  repeat' first
      | (with_reducible exact lots_fits.mono _ _ _ _ _)
      | (with_reducible exact lots_worth.mono _ _ _ _ _)
      | (with_reducible exact LeO.refl _)
      | (with_reducible exact LeO.none _)
      | (with_reducible refine LeO.ite ?_ ?_)
      | (with_reducible refine LeO.bind ?_ (fun _ => ?_))
      | exact lots_fits.mono _ _ _ _ _
      | exact lots_worth.mono _ _ _ _ _
      | exact LeO.none _
      | refine LeO.ite ?_ ?_
      | refine LeO.bind ?_ (fun _ => ?_)
set_option maxHeartbeats 8000000 in
set_option maxRecDepth 100000 in
theorem lots_Worth.calls [Inhabited (Int → Addr)] (k : Nat) (A0_0 : Option Addr) (c0_0 : Nat) (l0_0 : List (S47)) (A0_1 : Option Addr) (c0_1 : Nat) (l0_1 : List Int) (a0_2 : Int) (A1 : Option Addr) (c1 : Nat) (l1 : List Int) (r1 : Int) (r2 : Bool) (w : World) (hG : GlobOK w) (hr0_0 : Kd.C k47 w A0_0 l0_0.length l0_0) (hc0_0 : l0_0.length ≤ c0_0) (hr0_1 : Kd.C (Kd.int .i64) w A0_1 l0_1.length l0_1) (hc0_1 : l0_1.length ≤ c0_1) (hr1 : Kd.C (Kd.int .i64) w A1 l1.length l1) (hc1 : l1.length ≤ c1) (h : lots_Worth.f k l0_0 l0_1 a0_2 l1 = some (r1, r2)) :
    Calls Tryd.prog 21 #[.agg #[.slice A0_0 l0_0.length c0_0, .slice A0_1 l0_1.length c0_1, .int .i64 a0_2], .slice A1 l1.length c1] w fun e w' => e = .returned (.tuple #[.int .i64 r1, .bool r2]) ∧ Below w.heap.size w w' := by
  have hu25 := Tryd.underlying25; have HG := Aside0.mk hG; clear hG; have HR0_0 := Aside0.mk hr0_0; have HC0_0 := Aside0.mk hc0_0; clear hr0_0 hc0_0; have HR0_1 := Aside0.mk hr0_1; have HC0_1 := Aside0.mk hc0_1; clear hr0_1 hc0_1; have HR1 := Aside0.mk hr1; have HC1 := Aside0.mk hc1; clear hr1 hc1; have HB := Aside0.mk (Below.refl w.heap.size w); have H : ((lots_fits.f k l0_0 l0_1 a0_2 l1).bind fun t122 => (if t122 = true then ((lots_worth.f k l0_0 l0_1 a0_2 l1).bind fun t123 => (some (t123, true))) else (some (0, false)))) = some (r1, r2) := h; clear h; replace H := Option.bind_eq_some_iff.mp H; obtain ⟨t122, A30, H⟩ := H; replace H : (if t122 = true then ((lots_worth.f k l0_0 l0_1 a0_2 l1).bind fun t123 => (some (t123, true))) else (some (0, false))) = some (r1, r2) := H; have A3 := Aside0.mk A30; clear A30; by_cases c4 : t122 = true
  · subst c4
    have H1 : ((lots_worth.f k l0_0 l0_1 a0_2 l1).bind fun t123 => (some (t123, true))) = some (r1, r2) := by rw [if_pos rfl] at H; exact H
    clear H; have H := H1; clear H1; replace H := Option.bind_eq_some_iff.mp H; obtain ⟨t123, A50, H⟩ := H; replace H : (some (t123, true)) = some (r1, r2) := H; have A5 := Aside0.mk A50; clear A50; simp only [Option.some.injEq, Prod.mk.injEq] at H; obtain ⟨rfl, rfl⟩ := H
    go_enter Tryd.func21, Tryd.ntmps21
    go_wp2_with (first | ((with_reducible refine gate_dst (N := 2) rfl ?_); refine box_event ?hg (N := 2) ?hd (cs := #[.slice A0_0 l0_0.length c0_0, .slice A0_1 l0_1.length c0_1, .int .i64 a0_2]) (t := 25) ?hr ?_; (case hd => rfl); (case hg => rfl); (case hr => first | (go_simp; done) | (go_simp; rfl)); intro gb121 hg w6 hbox hb; have n0_ := Aside0.mk (below_step (zH HB.out) hb); have n1_ := Aside0.mk (hbox); have n2_ := Aside0.mk (zg hg (below_size (zH HB.out)) : w.heap.size ≤ gb121); have n3_ := Aside0.mk (zg hg (below_size (zH HB.out)) : w.heap.size ≤ gb121); clear HB; have HB := n0_; have BK121 := n1_; have GW121 := n2_; have GE121 := n3_; clear n0_ n1_ n2_ n3_; clear hb hbox hg; have hcz7_0 : w6.cell? ⟨gb121, 0, none⟩ = some (.slice A0_0 l0_0.length c0_0) := (blk_cell BK121.out 0).trans rfl; have hcz7_1 : w6.cell? ⟨gb121, 1, none⟩ = some (.slice A0_1 l0_1.length c0_1) := (blk_cell BK121.out 1).trans rfl; have hcz7_2 : w6.cell? ⟨gb121, 2, none⟩ = some (.int .i64 a0_2) := (blk_cell BK121.out 2).trans rfl; have hfz7_0 := blk_frozen BK121.out 0; have hfz7_1 := blk_frozen BK121.out 1; have hfz7_2 := blk_frozen BK121.out 2) | ((with_reducible refine gate_callee (f := 36) rfl ?_); refine goesL_ (some 8) rfl rfl Tryd.func36 (by kernel_rfl) rfl #[.agg #[.slice A0_0 l0_0.length c0_0, .slice A0_1 l0_1.length c0_1, .int .i64 a0_2], .slice A1 l1.length c1] rfl zM ?_; (with_reducible refine (lots_fits.calls k _ _ l0_0 _ _ l0_1 a0_2 _ _ l1 true _ ?side1 ?side2 ?side3 ?side4 ?side5 ?side6 ?side7 A3.out).mono ?_); (case side1 => exact GlobOK.below HG.out (zH1 HB.out GE121.out)); (case side2 => exact zC HR0_0.out HB.out); (case side3 => exact HC0_0.out); (case side4 => exact zC HR0_1.out HB.out); (case side5 => exact HC0_1.out); (case side6 => exact zC HR1.out HB.out); (case side7 => exact HC1.out); rintro e w8 ⟨rfl, hb⟩; refine ⟨_, rfl, ?_⟩; have n0_ := zBB BK121 hb; have n1_ := Aside0.mk (below_step (zH1 HB.out GE121.out) hb); clear BK121; clear HB; have BK121 := n0_; have HB := n1_; clear n0_ n1_; (try clear hb); (try clear hb2); (try clear hk); (try clear hi); have hcz9_0 : w8.cell? ⟨gb121, 0, none⟩ = some (.slice A0_0 l0_0.length c0_0) := (blk_cell BK121.out 0).trans rfl; have hcz9_1 : w8.cell? ⟨gb121, 1, none⟩ = some (.slice A0_1 l0_1.length c0_1) := (blk_cell BK121.out 1).trans rfl; have hcz9_2 : w8.cell? ⟨gb121, 2, none⟩ = some (.int .i64 a0_2) := (blk_cell BK121.out 2).trans rfl; have hfz9_0 := blk_frozen BK121.out 0; have hfz9_1 := blk_frozen BK121.out 1; have hfz9_2 := blk_frozen BK121.out 2) | ((with_reducible refine gate_callee (f := 37) rfl ?_); refine goesL_ (some 12) rfl rfl Tryd.func37 (by kernel_rfl) rfl #[.agg #[.slice A0_0 l0_0.length c0_0, .slice A0_1 l0_1.length c0_1, .int .i64 a0_2], .slice A1 l1.length c1] rfl zM ?_; (with_reducible refine (lots_worth.calls k _ _ l0_0 _ _ l0_1 a0_2 _ _ l1 t123 _ ?side1 ?side2 ?side3 ?side4 ?side5 ?side6 A5.out).mono ?_); (case side1 => exact zC HR0_0.out HB.out); (case side2 => exact HC0_0.out); (case side3 => exact zC HR0_1.out HB.out); (case side4 => exact HC0_1.out); (case side5 => exact zC HR1.out HB.out); (case side6 => exact HC1.out); rintro e w10 ⟨rfl, hb⟩; refine ⟨_, rfl, ?_⟩; have n0_ := zBB BK121 hb; have n1_ := Aside0.mk (below_step (zH1 HB.out GE121.out) hb); clear BK121; clear HB; have BK121 := n0_; have HB := n1_; clear n0_ n1_; (try clear hb); (try clear hb2); (try clear hk); (try clear hi)))
    go_ret2
    exact ⟨zE, zH1 HB.out GE121.out⟩
  · replace c4 := Bool.eq_false_iff.mpr c4
    subst c4; have H1 : (some (0, false)) = some (r1, r2) := by rw [if_neg (show ¬ (false = true) by decide)] at H; exact H
    clear H; have H := H1; clear H1; simp only [Option.some.injEq, Prod.mk.injEq] at H; obtain ⟨rfl, rfl⟩ := H
    go_enter Tryd.func21, Tryd.ntmps21
    go_wp2_with (first | ((with_reducible refine gate_dst (N := 2) rfl ?_); refine box_event ?hg (N := 2) ?hd (cs := #[.slice A0_0 l0_0.length c0_0, .slice A0_1 l0_1.length c0_1, .int .i64 a0_2]) (t := 25) ?hr ?_; (case hd => rfl); (case hg => rfl); (case hr => first | (go_simp; done) | (go_simp; rfl)); intro gb121 hg w11 hbox hb; have n0_ := Aside0.mk (below_step (zH HB.out) hb); have n1_ := Aside0.mk (hbox); have n2_ := Aside0.mk (zg hg (below_size (zH HB.out)) : w.heap.size ≤ gb121); have n3_ := Aside0.mk (zg hg (below_size (zH HB.out)) : w.heap.size ≤ gb121); clear HB; have HB := n0_; have BK121 := n1_; have GW121 := n2_; have GE121 := n3_; clear n0_ n1_ n2_ n3_; clear hb hbox hg; have hcz12_0 : w11.cell? ⟨gb121, 0, none⟩ = some (.slice A0_0 l0_0.length c0_0) := (blk_cell BK121.out 0).trans rfl; have hcz12_1 : w11.cell? ⟨gb121, 1, none⟩ = some (.slice A0_1 l0_1.length c0_1) := (blk_cell BK121.out 1).trans rfl; have hcz12_2 : w11.cell? ⟨gb121, 2, none⟩ = some (.int .i64 a0_2) := (blk_cell BK121.out 2).trans rfl; have hfz12_0 := blk_frozen BK121.out 0; have hfz12_1 := blk_frozen BK121.out 1; have hfz12_2 := blk_frozen BK121.out 2) | ((with_reducible refine gate_callee (f := 36) rfl ?_); refine goesL_ (some 8) rfl rfl Tryd.func36 (by kernel_rfl) rfl #[.agg #[.slice A0_0 l0_0.length c0_0, .slice A0_1 l0_1.length c0_1, .int .i64 a0_2], .slice A1 l1.length c1] rfl zM ?_; (with_reducible refine (lots_fits.calls k _ _ l0_0 _ _ l0_1 a0_2 _ _ l1 false _ ?side1 ?side2 ?side3 ?side4 ?side5 ?side6 ?side7 A3.out).mono ?_); (case side1 => exact GlobOK.below HG.out (zH1 HB.out GE121.out)); (case side2 => exact zC HR0_0.out HB.out); (case side3 => exact HC0_0.out); (case side4 => exact zC HR0_1.out HB.out); (case side5 => exact HC0_1.out); (case side6 => exact zC HR1.out HB.out); (case side7 => exact HC1.out); rintro e w13 ⟨rfl, hb⟩; refine ⟨_, rfl, ?_⟩; have n0_ := zBB BK121 hb; have n1_ := Aside0.mk (below_step (zH1 HB.out GE121.out) hb); clear BK121; clear HB; have BK121 := n0_; have HB := n1_; clear n0_ n1_; (try clear hb); (try clear hb2); (try clear hk); (try clear hi)))
    go_ret2
    exact ⟨zE, zH1 HB.out GE121.out⟩

/-! ### lots_Fits: function 26 -/
def lots_Fits.f (k : Nat) (l0_0 : List (S47)) (l0_1 : List Int) (a0_2 : Int) (l1 : List Int) : Option (Bool) := (lots_Worth.f k l0_0 l0_1 a0_2 l1).bind fun bt125 => (if bt125.2 = true then (some (decide (bt125.1 ≥ a0_2))) else (some false))
theorem lots_Fits.mono : ∀ a0 a1 a2 a3 k, LeO (lots_Fits.f k a0 a1 a2 a3) (lots_Fits.f (k + 1) a0 a1 a2 a3) := by
  intro a0 a1 a2 a3 k; unfold lots_Fits.f
  repeat' first
      | (with_reducible exact lots_Worth.mono _ _ _ _ _)
      | (with_reducible exact LeO.refl _)
      | (with_reducible exact LeO.none _)
      | (with_reducible refine LeO.ite ?_ ?_)
      | (with_reducible refine LeO.bind ?_ (fun _ => ?_))
      | exact lots_Worth.mono _ _ _ _ _
      | exact LeO.none _
      | refine LeO.ite ?_ ?_
      | refine LeO.bind ?_ (fun _ => ?_)
set_option maxHeartbeats 8000000 in
set_option maxRecDepth 100000 in
theorem lots_Fits.calls [Inhabited (Int → Addr)] (k : Nat) (A0_0 : Option Addr) (c0_0 : Nat) (l0_0 : List (S47)) (A0_1 : Option Addr) (c0_1 : Nat) (l0_1 : List Int) (a0_2 : Int) (A1 : Option Addr) (c1 : Nat) (l1 : List Int) (r : Bool) (w : World) (hG : GlobOK w) (hr0_0 : Kd.C k47 w A0_0 l0_0.length l0_0) (hc0_0 : l0_0.length ≤ c0_0) (hr0_1 : Kd.C (Kd.int .i64) w A0_1 l0_1.length l0_1) (hc0_1 : l0_1.length ≤ c0_1) (hr1 : Kd.C (Kd.int .i64) w A1 l1.length l1) (hc1 : l1.length ≤ c1) (h : lots_Fits.f k l0_0 l0_1 a0_2 l1 = some r) :
    Calls Tryd.prog 26 #[.agg #[.slice A0_0 l0_0.length c0_0, .slice A0_1 l0_1.length c0_1, .int .i64 a0_2], .slice A1 l1.length c1] w fun e w' => e = .returned (.bool r) ∧ Below w.heap.size w w' := by
  have hu25 := Tryd.underlying25; have HG := Aside0.mk hG; clear hG; have HR0_0 := Aside0.mk hr0_0; have HC0_0 := Aside0.mk hc0_0; clear hr0_0 hc0_0; have HR0_1 := Aside0.mk hr0_1; have HC0_1 := Aside0.mk hc0_1; clear hr0_1 hc0_1; have HR1 := Aside0.mk hr1; have HC1 := Aside0.mk hc1; clear hr1 hc1; have HB := Aside0.mk (Below.refl w.heap.size w); have H : ((lots_Worth.f k l0_0 l0_1 a0_2 l1).bind fun bt125 => (if bt125.2 = true then (some (decide (bt125.1 ≥ a0_2))) else (some false))) = some r := h; clear h; replace H := Option.bind_eq_some_iff.mp H; obtain ⟨⟨t125, t126⟩, A30, H⟩ := H; replace H : (if t126 = true then (some (decide (t125 ≥ a0_2))) else (some false)) = some r := H; have A3 := Aside0.mk A30; clear A30; by_cases c4 : t126 = true
  · subst c4
    have H1 : (some (decide (t125 ≥ a0_2))) = some r := by rw [if_pos rfl] at H; exact H
    clear H; have H := H1; clear H1; obtain rfl := Option.some.inj H
    go_enter Tryd.func26, Tryd.ntmps26
    go_wp2_with (first | ((with_reducible refine gate_dst (N := 2) rfl ?_); refine box_event ?hg (N := 2) ?hd (cs := #[.slice A0_0 l0_0.length c0_0, .slice A0_1 l0_1.length c0_1, .int .i64 a0_2]) (t := 25) ?hr ?_; (case hd => rfl); (case hg => rfl); (case hr => first | (go_simp; done) | (go_simp; rfl)); intro gb124 hg w5 hbox hb; have n0_ := Aside0.mk (below_step (zH HB.out) hb); have n1_ := Aside0.mk (hbox); have n2_ := Aside0.mk (zg hg (below_size (zH HB.out)) : w.heap.size ≤ gb124); have n3_ := Aside0.mk (zg hg (below_size (zH HB.out)) : w.heap.size ≤ gb124); clear HB; have HB := n0_; have BK124 := n1_; have GW124 := n2_; have GE124 := n3_; clear n0_ n1_ n2_ n3_; clear hb hbox hg; have hcz6_0 : w5.cell? ⟨gb124, 0, none⟩ = some (.slice A0_0 l0_0.length c0_0) := (blk_cell BK124.out 0).trans rfl; have hcz6_1 : w5.cell? ⟨gb124, 1, none⟩ = some (.slice A0_1 l0_1.length c0_1) := (blk_cell BK124.out 1).trans rfl; have hcz6_2 : w5.cell? ⟨gb124, 2, none⟩ = some (.int .i64 a0_2) := (blk_cell BK124.out 2).trans rfl; have hfz6_0 := blk_frozen BK124.out 0; have hfz6_1 := blk_frozen BK124.out 1; have hfz6_2 := blk_frozen BK124.out 2) | ((with_reducible refine gate_callee (f := 21) rfl ?_); refine goesL_ (some 10) rfl rfl Tryd.func21 (by kernel_rfl) rfl #[.agg #[.slice A0_0 l0_0.length c0_0, .slice A0_1 l0_1.length c0_1, .int .i64 a0_2], .slice A1 l1.length c1] rfl zM ?_; (with_reducible refine (lots_Worth.calls k _ _ l0_0 _ _ l0_1 a0_2 _ _ l1 t125 true _ ?side1 ?side2 ?side3 ?side4 ?side5 ?side6 ?side7 A3.out).mono ?_); (case side1 => exact GlobOK.below HG.out (zH1 HB.out GE124.out)); (case side2 => exact zC HR0_0.out HB.out); (case side3 => exact HC0_0.out); (case side4 => exact zC HR0_1.out HB.out); (case side5 => exact HC0_1.out); (case side6 => exact zC HR1.out HB.out); (case side7 => exact HC1.out); rintro e w7 ⟨rfl, hb⟩; refine ⟨_, rfl, ?_⟩; have n0_ := zBB BK124 hb; have n1_ := Aside0.mk (below_step (zH1 HB.out GE124.out) hb); clear BK124; clear HB; have BK124 := n0_; have HB := n1_; clear n0_ n1_; (try clear hb); (try clear hb2); (try clear hk); (try clear hi); have hcz8_0 : w7.cell? ⟨gb124, 0, none⟩ = some (.slice A0_0 l0_0.length c0_0) := (blk_cell BK124.out 0).trans rfl; have hcz8_1 : w7.cell? ⟨gb124, 1, none⟩ = some (.slice A0_1 l0_1.length c0_1) := (blk_cell BK124.out 1).trans rfl; have hcz8_2 : w7.cell? ⟨gb124, 2, none⟩ = some (.int .i64 a0_2) := (blk_cell BK124.out 2).trans rfl; have hfz8_0 := blk_frozen BK124.out 0; have hfz8_1 := blk_frozen BK124.out 1; have hfz8_2 := blk_frozen BK124.out 2))
    go_ret
    exact ⟨zE, zH1 HB.out GE124.out⟩
  · replace c4 := Bool.eq_false_iff.mpr c4
    subst c4; have H1 : (some false) = some r := by rw [if_neg (show ¬ (false = true) by decide)] at H; exact H
    clear H; have H := H1; clear H1; obtain rfl := Option.some.inj H
    go_enter Tryd.func26, Tryd.ntmps26
    go_wp2_with (first | ((with_reducible refine gate_dst (N := 2) rfl ?_); refine box_event ?hg (N := 2) ?hd (cs := #[.slice A0_0 l0_0.length c0_0, .slice A0_1 l0_1.length c0_1, .int .i64 a0_2]) (t := 25) ?hr ?_; (case hd => rfl); (case hg => rfl); (case hr => first | (go_simp; done) | (go_simp; rfl)); intro gb124 hg w9 hbox hb; have n0_ := Aside0.mk (below_step (zH HB.out) hb); have n1_ := Aside0.mk (hbox); have n2_ := Aside0.mk (zg hg (below_size (zH HB.out)) : w.heap.size ≤ gb124); have n3_ := Aside0.mk (zg hg (below_size (zH HB.out)) : w.heap.size ≤ gb124); clear HB; have HB := n0_; have BK124 := n1_; have GW124 := n2_; have GE124 := n3_; clear n0_ n1_ n2_ n3_; clear hb hbox hg; have hcz10_0 : w9.cell? ⟨gb124, 0, none⟩ = some (.slice A0_0 l0_0.length c0_0) := (blk_cell BK124.out 0).trans rfl; have hcz10_1 : w9.cell? ⟨gb124, 1, none⟩ = some (.slice A0_1 l0_1.length c0_1) := (blk_cell BK124.out 1).trans rfl; have hcz10_2 : w9.cell? ⟨gb124, 2, none⟩ = some (.int .i64 a0_2) := (blk_cell BK124.out 2).trans rfl; have hfz10_0 := blk_frozen BK124.out 0; have hfz10_1 := blk_frozen BK124.out 1; have hfz10_2 := blk_frozen BK124.out 2) | ((with_reducible refine gate_callee (f := 21) rfl ?_); refine goesL_ (some 10) rfl rfl Tryd.func21 (by kernel_rfl) rfl #[.agg #[.slice A0_0 l0_0.length c0_0, .slice A0_1 l0_1.length c0_1, .int .i64 a0_2], .slice A1 l1.length c1] rfl zM ?_; (with_reducible refine (lots_Worth.calls k _ _ l0_0 _ _ l0_1 a0_2 _ _ l1 t125 false _ ?side1 ?side2 ?side3 ?side4 ?side5 ?side6 ?side7 A3.out).mono ?_); (case side1 => exact GlobOK.below HG.out (zH1 HB.out GE124.out)); (case side2 => exact zC HR0_0.out HB.out); (case side3 => exact HC0_0.out); (case side4 => exact zC HR0_1.out HB.out); (case side5 => exact HC0_1.out); (case side6 => exact zC HR1.out HB.out); (case side7 => exact HC1.out); rintro e w11 ⟨rfl, hb⟩; refine ⟨_, rfl, ?_⟩; have n0_ := zBB BK124 hb; have n1_ := Aside0.mk (below_step (zH1 HB.out GE124.out) hb); clear BK124; clear HB; have BK124 := n0_; have HB := n1_; clear n0_ n1_; (try clear hb); (try clear hb2); (try clear hk); (try clear hi)))
    go_ret
    exact ⟨zE, zH1 HB.out GE124.out⟩

/-! ### slices_Clone_int_int: function 27 -/
/-- A slice's own copy. -/
def slices_Clone_int_int.f (l0 : List Int) : Option (List Int) := if l0.length ≤ 1000000000 then some l0 else none
set_option maxHeartbeats 4000000 in
set_option maxRecDepth 100000 in
theorem slices_Clone_int_int.calls [Inhabited (Int → Addr)] (A0 : Option Addr) (c0 : Nat) (l0 : List Int) (r : List Int) (w : World) (hr0 : Kd.C (Kd.int .i64) w A0 l0.length l0) (hc0 : l0.length ≤ c0) (h : slices_Clone_int_int.f l0 = some r) :
    Calls Tryd.prog 27 #[.slice A0 l0.length c0] w fun e w' => ∃ v0_ : Value, e = .returned (v0_) ∧ Kd.R (Kd.int .i64) 3 w' w.heap.size (fun _ => True) v0_ r ∧ Below w.heap.size w w' := by
  unfold slices_Clone_int_int.f at h; by_cases hl : l0.length ≤ 1000000000
  · rw [if_pos hl] at h
    obtain rfl := Option.some.inj h; clear h; have hu := Tryd.underlying26; have hn0 : ∀ (n c : Nat) (W : World), (Go.binOp BinOp.eql 26 (.slice none n c) (.slice none 0 0)).run Tryd.prog W = .ok (.bool true) W := fun _ _ _ => by rfl
    have hn1 : ∀ (ad : Addr) (n c : Nat) (W : World), (Go.binOp BinOp.eql 26 (.slice (some ad) n c) (.slice none 0 0)).run Tryd.prog W = .ok (.bool false) W := fun _ _ _ _ => by rfl
    have HR := Aside0.mk hr0; have HL := Aside0.mk hl; have hlen := hr0.2.1
    cases A0 with
    | none =>
      have HN := Aside0.mk hr0
      have hnil : l0 = [] := by
        obtain ⟨h1, h2, h3⟩ := hr0
        apply List.eq_nil_of_length_eq_zero
        apply Decidable.byContradiction; intro hx
        obtain ⟨ad, h, _⟩ := h3 (by omega)
        cases h
      subst hnil; clear hr0 HR hlen hc0 hl
      go_enter Tryd.func27, Tryd.ntmps27
      go_wp2
      go_ret
      exact ⟨_, rfl, Kd.R_nil _ _ _ _ _, Below.refl _ _⟩
    | some ad =>
      clear hr0 hc0 hl hlen
      go_enter Tryd.func27, Tryd.ntmps27
      go_wp2_with (first
        | ((with_reducible refine gate_dst (N := 5) rfl ?_); refine Kd.R_lit (Kd.int .i64) (w0 := w) w.heap.size 3 ?hg (N := 5) ?hd (xs := ([] : List Int)) (inner := []) (ok := fun _ => True) (okp := fun _ => False) ?hr ?hp (fun _ h => h.elim) trivial (Below.refl _ _) (Nat.le_refl _) (by simp) ?_; (case hd => rfl); (case hg => rfl); (case hr => first | (go_simp; done) | (go_simp; rfl)); (case hp => exact Reps.none _ _); intro v1 w1 ho hb hg hat; have HO := Aside0.mk ho; have HB := Aside0.mk hb; clear ho hb hg hat)
        | ((with_reducible refine gate_builtin (b := .append) (xs := #[.tmp 5, .tmp 6]) rfl ?_); at_builtin; refine Kd.R_append_rows (Kd.int .i64) (w0 := w) w.heap.size rfl (.tmp 5) (.tmp 6) 26 3 (.int .i64 0) 8 rfl Tryd.underlying26 info3 rfl (by decide) (by omega) v1 [] l0 _ _ _ (fun _ => True) (fun _ => False) rfl rfl ?aO ?aR (fun _ _ h => h) (fun _ h => h.elim) ?aF ?aB ?aS ?aL ?_; (case aO => exact HO.out); (case aR => exact Kd.C_below HR.out HB.out); (case aF => exact fun _ _ => trivial); (case aB => exact HB.out); (case aS => exact below_size HB.out); (case aL => have := HL.out; simp; omega); intro v2 w2 ho hb hg hat; have HO2 := Aside0.mk ho; have HB2 := Aside0.mk hb; clear ho hb hg hat))
      go_ret
      exact ⟨_, rfl, HO2.out, HB2.out⟩
  · rw [if_neg hl] at h
    exact absurd h (by simp)

end Go.Proofs.YteooecifecaikaaDoor.ECertSays
