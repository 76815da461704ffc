/- The functions that the law comes to, as plain functions, and for each a proof that the Go code comes to just these answers. Written by a program of this claim. Conditions: each theorem bears its own. -/
import Derived.Test.YtlalofmilhakjaaDoorELotsSayx0
namespace Go.Proofs.YtlalofmilhakjaaDoor.ELotsSay
open Go.RowKit Go.Proofs.YtlalofmilhakjaaDoorW.PrintWords Go.Proofs.YtlalofmilhakjaaDoorW.PrintLast Go.Proofs.YtlalofmilhakjaaDoorW.PrintMore Go.Proofs.YtlalofmilhakjaaDoorW.PrintOpen
attribute [local go_sem] max2_int min2_int max_two min_two max_three min_three max_four min_four   -- for this text's walks alone
set_option linter.unusedVariables false
set_option linter.unusedSimpArgs false

/-! ### lots_worth: function 27 -/
mutual
def lots_worth.l0 : Nat → List Int → List Int → Int → Int → List (S25) → List Int → Int → Option (Int)
 | 0, _, _, _, _, _, _, _ => none
 | k + 1, x5, x15, x16, x17, x105000, x105001, x105002 => if x17 < x16 then (if 0 ≤ x17 then (if x17 < (x15.length : Int) then (if x17 < (x105000.length : Int) then (if 0 ≤ ((rd_T25 x105000 x17).f3) then (if ((rd_T25 x105000 x17).f3) < (x5.length : Int) then (lots_worth.l0 k (x5.set (((rd_T25 x105000 x17).f3) : Int).toNat (wrap64 ((rd x5 ((rd_T25 x105000 x17).f3)) + (wrap64 ((rd x15 x17) * ((rd_T25 x105000 x17).f1)))))) x15 x16 (wrap64 (x17 + 1)) x105000 x105001 x105002) else (none)) else (none)) else (none)) else (none)) else (none)) else (lots_worth.l1 k 0 x5 (x5.length : Int) 0 x105000 x105001 x105002)
def lots_worth.l1 : Nat → Int → List Int → Int → Int → List (S25) → List Int → Int → Option (Int)
 | 0, _, _, _, _, _, _, _ => none
 | k + 1, x8, x42, x43, x44, x105000, x105001, x105002 => if x44 < x43 then (if 0 ≤ x44 then (if x44 < (x42.length : Int) then (if x44 < (x105001.length : Int) then (if (rd x105001 x44) > 0 then (lots_worth.l1 k (wrap64 (x8 + (mn (rd x42 x44) (rd x105001 x44)))) x42 x43 (wrap64 (x44 + 1)) x105000 x105001 x105002) else (lots_worth.l1 k (wrap64 (x8 + (rd x42 x44))) x42 x43 (wrap64 (x44 + 1)) x105000 x105001 x105002)) else (none)) else (none)) else (none)) else (some x8)
end
def lots_worth.f (k : Nat) (l0_0 : List (S25)) (l0_1 : List Int) (a0_2 : Int) (l1 : List Int) : Option (Int) := if 0 ≤ (l0_1.length : Int) then (if ((l0_1.length : Int) : Int).toNat ≤ 35184372088832 then (lots_worth.l0 k (List.replicate ((l0_1.length : Int) : Int).toNat 0) l1 (l1.length : Int) 0 l0_0 l0_1 a0_2) else (none)) else (none)
theorem lots_worth.mono_l : ∀ k, (∀ y0 y1 y2 y3 y4 y5 y6, LeO (lots_worth.l0 k y0 y1 y2 y3 y4 y5 y6) (lots_worth.l0 (k + 1) y0 y1 y2 y3 y4 y5 y6)) ∧ (∀ y0 y1 y2 y3 y4 y5 y6, LeO (lots_worth.l1 k y0 y1 y2 y3 y4 y5 y6) (lots_worth.l1 (k + 1) y0 y1 y2 y3 y4 y5 y6))
 | 0 => ⟨fun _ _ _ _ _ _ _ r h => by simp [lots_worth.l0] at h, fun _ _ _ _ _ _ _ r h => by simp [lots_worth.l1] at h⟩
 | k + 1 => by
  obtain ⟨ih0, ih1⟩ := lots_worth.mono_l k; refine ⟨?_, ?_⟩
  ·
   intro y0 y1 y2 y3 y4 y5 y6; unfold lots_worth.l0
   repeat' first
   | (with_reducible exact ih0 _ _ _ _ _ _ _)
   | (with_reducible exact ih1 _ _ _ _ _ _ _)
   | (with_reducible exact LeO.refl _)
   | (with_reducible exact LeO.none _)
   | (with_reducible refine LeO.ite ?_ ?_)
   | (with_reducible refine LeO.bind ?_ (fun _ => ?_))
   | exact ih0 _ _ _ _ _ _ _
   | exact ih1 _ _ _ _ _ _ _
   | exact LeO.none _
   | refine LeO.ite ?_ ?_
   | refine LeO.bind ?_ (fun _ => ?_)
  ·
   intro y0 y1 y2 y3 y4 y5 y6; unfold lots_worth.l1
   repeat' first
   | (with_reducible exact ih0 _ _ _ _ _ _ _)
   | (with_reducible exact ih1 _ _ _ _ _ _ _)
   | (with_reducible exact LeO.refl _)
   | (with_reducible exact LeO.none _)
   | (with_reducible refine LeO.ite ?_ ?_)
   | (with_reducible refine LeO.bind ?_ (fun _ => ?_))
   | exact ih0 _ _ _ _ _ _ _
   | exact ih1 _ _ _ _ _ _ _
   | exact LeO.none _
   | refine LeO.ite ?_ ?_
   | refine LeO.bind ?_ (fun _ => ?_)
theorem lots_worth.mono : ∀ a0 a1 a2 a3 k, LeO (lots_worth.f k a0 a1 a2 a3) (lots_worth.f (k + 1) a0 a1 a2 a3) := by
 intro a0 a1 a2 a3 k; obtain ⟨ih0, ih1⟩ := lots_worth.mono_l k; unfold lots_worth.f
 repeat' first
   | (with_reducible exact ih0 _ _ _ _ _ _ _)
   | (with_reducible exact ih1 _ _ _ _ _ _ _)
   | (with_reducible exact LeO.refl _)
   | (with_reducible exact LeO.none _)
   | (with_reducible refine LeO.ite ?_ ?_)
   | (with_reducible refine LeO.bind ?_ (fun _ => ?_))
   | exact ih0 _ _ _ _ _ _ _
   | exact ih1 _ _ _ _ _ _ _
   | exact LeO.none _
   | refine LeO.ite ?_ ?_
   | refine LeO.bind ?_ (fun _ => ?_)
def lots_worth.T5 : Bool × List (List Nat × List Nat) := (true, [([], []), ([], []), ([1], [1]), ([], []), ([2, 3], [2, 3]), ([4], [4]), ([5], [5]), ([0, 6], [0, 6]), ([7], [7]), ([], []), ([], []), ([10], [10]), ([], []), ([11, 12], [11, 12]), ([13], [13]), ([14], [14]), ([9, 15], [9, 15]), ([8, 16], [8, 16]), ([0, 6, 0, 1, 2, 3, 4, 5, 6, 7, 8, 9, 10, 11, 12, 13, 14, 15, 16, 17], [0, 6]), ([18, 17, 0, 1, 2, 3, 4, 5, 6, 7, 8, 9, 10, 11, 12, 13, 14, 15, 16, 17], [17, 18])])
def lots_worth.B5 : List Nat := [0, 0, 2, 0, 14, 30, 62, 127, 255, 0, 0, 1024, 0, 7168, 15360, 31744, 65024, 131071, 262143, 524287]
theorem lots_worth.tab5 : rtab .any (opsOf Tryd.f27 5) = lots_worth.T5 := by kernel_rfl
theorem lots_worth.bits5 : waitsOk lots_worth.T5.2 lots_worth.B5 = true := by kernel_rfl
abbrev z1f2f_m0 : Array Bool := (fun o i : Bool => #[o,o,o,o,o,o,o,o,o,o,o,o,o,o,o,o,o,o,o,o]) false true
abbrev z1f2f_m1 : Array Bool := (fun o i : Bool => #[i,o,o,o,o,o,o,o,o,o,o,o,o,o,o,o,o,o,o,o]) false true
abbrev z1f2f_m2 : Array Bool := (fun o i : Bool => #[i,i,o,o,o,o,o,o,o,o,o,o,o,o,o,o,o,o,o,o]) false true
abbrev z1f2f_m3 : Array Bool := (fun o i : Bool => #[i,i,o,i,o,o,o,o,o,o,o,o,o,o,o,o,o,o,o,o]) false true
abbrev z1f2f_m4 : Array Bool := (fun o i : Bool => #[i,i,o,i,o,o,o,o,o,i,o,o,o,o,o,o,o,o,o,o]) false true
abbrev z1f2f_m5 : Array Bool := (fun o i : Bool => #[i,i,o,i,o,o,o,o,o,i,i,o,o,o,o,o,o,o,o,o]) false true
abbrev z1f2f_m6 : Array Bool := (fun o i : Bool => #[i,i,o,i,o,o,o,o,o,i,i,o,i,o,o,o,o,o,o,o]) false true
abbrev z1f2f_m7 : Array Bool := (fun o i : Bool => #[i,i,i,i,o,o,o,o,o,i,i,o,i,o,o,o,o,o,o,o]) false true
abbrev z1f2f_m8 : Array Bool := (fun o i : Bool => #[i,i,i,i,i,o,o,o,o,i,i,o,i,o,o,o,o,o,o,o]) false true
abbrev z1f2f_m9 : Array Bool := (fun o i : Bool => #[i,i,i,i,i,i,o,o,o,i,i,o,i,o,o,o,o,o,o,o]) false true
abbrev z1f2f_m10 : Array Bool := (fun o i : Bool => #[i,i,i,i,i,i,i,o,o,i,i,o,i,o,o,o,o,o,o,o]) false true
abbrev z1f2f_m11 : Array Bool := (fun o i : Bool => #[i,i,i,i,i,i,i,i,o,i,i,o,i,o,o,o,o,o,o,o]) false true
abbrev z1f2f_m12 : Array Bool := (fun o i : Bool => #[i,i,i,i,i,i,i,i,i,i,i,o,i,o,o,o,o,o,o,o]) false true
abbrev z1f2f_m13 : Array Bool := (fun o i : Bool => #[i,i,i,i,i,i,i,i,i,i,i,i,i,o,o,o,o,o,o,o]) false true
abbrev z1f2f_m14 : Array Bool := (fun o i : Bool => #[i,i,i,i,i,i,i,i,i,i,i,i,i,i,o,o,o,o,o,o]) false true
abbrev z1f2f_m15 : Array Bool := (fun o i : Bool => #[i,i,i,i,i,i,i,i,i,i,i,i,i,i,i,o,o,o,o,o]) false true
abbrev z1f2f_m16 : Array Bool := (fun o i : Bool => #[i,i,i,i,i,i,i,i,i,i,i,i,i,i,i,i,o,o,o,o]) false true
abbrev z1f2f_m17 : Array Bool := (fun o i : Bool => #[i,i,i,i,i,i,i,i,i,i,i,i,i,i,i,i,i,o,o,o]) false true
abbrev z1f2f_m18 : Array Bool := (fun o i : Bool => #[i,i,i,i,i,i,i,i,i,i,i,i,i,i,i,i,i,i,o,o]) false true
abbrev z1f2f_m19 : Array Bool := (fun o i : Bool => #[i,i,i,i,i,i,i,i,i,i,i,i,i,i,i,i,i,i,i,o]) false true
abbrev z1f2f_m20 : Array Bool := (fun o i : Bool => #[i,i,i,i,i,i,i,i,i,i,i,i,i,i,i,i,i,i,i,i]) false true
set_option maxHeartbeats 8000000 in
set_option maxRecDepth 100000 in
theorem lots_worth.calls [Inhabited (Int → Addr)] (k : Nat) (A0_0 : Option Addr) (c0_0 : Nat) (l0_0 : List (S25)) (A0_1 : Option Addr) (c0_1 : Nat) (l0_1 : List Int) (a0_2 : Int) (A1 : Option Addr) (c1 : Nat) (l1 : List Int) (r : Int) (w : World) (hr0_0 : Kd.C k25 w A0_0 l0_0.length l0_0) (hc0_0 : l0_0.length ≤ c0_0) (hr0_1 : Kd.C (Kd.int .i64) w A0_1 l0_1.length l0_1) (hc0_1 : l0_1.length ≤ c0_1) (hr1 : Kd.C (Kd.int .i64) w A1 l1.length l1) (hc1 : l1.length ≤ c1) (h : lots_worth.f k l0_0 l0_1 a0_2 l1 = some r) :
  Calls Tryd.prog 27 #[.agg #[.slice A0_0 l0_0.length c0_0, .slice A0_1 l0_1.length c0_1, .int .i64 a0_2], .slice A1 l1.length c1] w fun e w' => e = .returned (.int .i64 r) ∧ Below w.heap.size w w' := by
 have hu29 := Tryd.underlying29; have HR0_0 := Aside0.mk hr0_0; have HC0_0 := Aside0.mk hc0_0; clear hr0_0 hc0_0; have HR0_1 := Aside0.mk hr0_1; have HC0_1 := Aside0.mk hc0_1; clear hr0_1 hc0_1; have HR1 := Aside0.mk hr1; have HC1 := Aside0.mk hc1; clear hr1 hc1; have HB := Aside0.mk (Below.refl w.heap.size w); have H : (if 0 ≤ (l0_1.length : Int) then (if ((l0_1.length : Int) : Int).toNat ≤ 35184372088832 then (lots_worth.l0 k (List.replicate ((l0_1.length : Int) : Int).toNat 0) l1 (l1.length : Int) 0 l0_0 l0_1 a0_2) else (none)) else (none)) = some r := h; clear h; by_cases c3 : 0 ≤ (l0_1.length : Int)
 ·
  rw [if_pos c3] at H; have c3b0 := eq_true c3; have c3b1 : decide (0 ≤ (l0_1.length : Int)) = true := decide_eq_true c3; clear c3; by_cases c4 : ((l0_1.length : Int) : Int).toNat ≤ 35184372088832
  ·
   rw [if_pos c4] at H; have c4b0 := eq_true c4; have c4b1 : decide (((l0_1.length : Int) : Int).toNat ≤ 35184372088832) = true := decide_eq_true c4; clear c4; obtain ⟨y105, hy105⟩ : ∃ y_ : List Int, y_ = (List.replicate ((l0_1.length : Int) : Int).toNat 0) := ⟨_, rfl⟩; replace H : (lots_worth.l0 k y105 l1 (l1.length : Int) 0 l0_0 l0_1 a0_2) = some r := by first | (rw [hy105]; with_reducible exact H) | (have H2_ := (Option.bind_some _ _).symm.trans H; rw [hy105]; with_reducible exact H2_) | (have H2_ := (Option.bind_some _ _).symm.trans H; with_reducible exact H2_) | with_reducible exact H | (rw [hy105]; exact H) | exact H
   have Ny105 := Aside0.mk hy105; clear hy105; have H' := Aside0.mk H; clear H
   go_enter Tryd.func27, Tryd.ntmps27
   go_wp2_with (first | ((with_reducible refine gate_dst (N := 2) rfl ?_); refine box_event ?hg (N := 2) ?hd (cs := #[.slice A0_0 l0_0.length c0_0, .slice A0_1 l0_1.length c0_1, .int .i64 a0_2]) (t := 29) ?hr ?_; (case hd => rfl); (case hg => rfl); (case hr => first | (go_simp; done) | (go_simp; rfl)); intro gb104 hg w5 hbox hb; have n0_ := Aside0.mk (below_step (zH HB.out) hb); have n1_ := Aside0.mk (hbox); have n2_ := Aside0.mk (zg hg (below_size (zH HB.out)) : w.heap.size ≤ gb104); have n3_ := Aside0.mk (zg hg (below_size (zH HB.out)) : w.heap.size ≤ gb104); clear HB; have HB := n0_; have BK104 := n1_; have GW104 := n2_; have GE104 := n3_; clear n0_ n1_ n2_ n3_; clear hb hbox hg; have hcz6_0 : w5.cell? ⟨gb104, 0, none⟩ = some (.slice A0_0 l0_0.length c0_0) := (blk_cell BK104.out 0).trans rfl; have hcz6_1 : w5.cell? ⟨gb104, 1, none⟩ = some (.slice A0_1 l0_1.length c0_1) := (blk_cell BK104.out 1).trans rfl; have hcz6_2 : w5.cell? ⟨gb104, 2, none⟩ = some (.int .i64 a0_2) := (blk_cell BK104.out 2).trans rfl; have hfz6_0 := blk_frozen BK104.out 0; have hfz6_1 := blk_frozen BK104.out 1; have hfz6_2 := blk_frozen BK104.out 2) | ((with_reducible refine gate_dst (N := 14) rfl ?_); refine Kd.R_make (Kd.int .i64) _ 2 rfl (N := 14) rfl 27 _ _ rfl (l0_1.length : Int) rfl rfl Tryd.underlying27 (.int .i64 0) 8 info2 rfl (by decide) (by omega) 0 (ok := fun _ => True) (okp := fun _ => True) rfl (fun _ hk => hk) trivial (of_decide_eq_true zA) (Nat.le_trans (Nat.mul_le_mul_right _ (of_decide_eq_true zA : (l0_1.length : Int).toNat ≤ 35184372088832)) (by omega)) (Below.refl _ _) (Nat.le_refl _) ?_; intro v106 w7 ho8 hb hg_ hnew_; clear hg_ hnew_; (first | rw [← Ny105.out] at ho8 | (simp only [Int.reduceToNat] at ho8; rw [← Ny105.out] at ho8)); have n0_ := Aside0.mk (Kd.R_lower ho8 (below_size (zH1 HB.out GE104.out))); have n1_ := zBB BK104 hb; have n2_ := Aside0.mk (below_step (zH1 HB.out GE104.out) hb); clear BK104; clear HB; have HO107 := n0_; have BK104 := n1_; have HB := n2_; clear n0_ n1_ n2_; clear hb ho8))
   go_loopg [17] k (fun kq v17 w' => ∃ (x5_1 : List Int) (x17_1 : Int), v17 = .int .i64 x17_1 ∧ Aside0 (lots_worth.l0 kq x5_1 l1 (l1.length : Int) x17_1 l0_0 l0_1 a0_2 = some r) ∧ Aside0 (kq ≤ k) ∧ Aside0 (Kd.R (Kd.int .i64) 2 w' w.heap.size (fun _ => True) v106 x5_1) ∧ Aside0 (w'.heap[gb104]? = some (.cells #[(.slice A0_0 l0_0.length c0_0), (.slice A0_1 l0_1.length c0_1), .int .i64 a0_2] 29 (0, 0))) ∧ Aside0 (Below w.heap.size w w'))
   case atStart => exact ⟨(y105), (0), zS, H', ⟨Nat.le_refl _⟩, ⟨by (with_reducible repeat (first | apply Kd.R_alloc | apply Kd.R_drewN | apply Kd.R_drew)); exact HO107.out⟩, ⟨zB BK104.out⟩, ⟨zH1 HB.out GE104.out⟩⟩
   case round =>
    clear H'
    try clear c1
    try clear c2
    try clear p2
    try clear c3
    try clear c3b0
    try clear c3b1
    try clear c4
    try clear c4b0
    try clear c4b1
    try clear hcz6_0
    try clear hcz6_1
    try clear hcz6_2
    try clear hfz6_0
    try clear hfz6_1
    try clear hfz6_2
    obtain ⟨x5_1, x17_1, rfl, HA, HK1, HO_5, BK104, HB⟩ := hrel
    cases gk with
    | zero => exact absurd HA.out (by simp [lots_worth.l0])
    | succ k1 =>
     have H := HA.out; clear HA; simp only [lots_worth.l0] at H; by_cases c9 : x17_1 < (l1.length : Int)
     ·
      rw [if_pos c9] at H; have c9b0 : decide (x17_1 < (l1.length : Int)) = true := decide_eq_true c9; clear c9; by_cases c10 : 0 ≤ x17_1
      ·
       rw [if_pos c10] at H; have c10b0 : decide (0 ≤ x17_1) = true := decide_eq_true c10; clear c10; by_cases c11 : x17_1 < (l1.length : Int)
       ·
        rw [if_pos c11] at H; have c11b0 : decide (x17_1 < (l1.length : Int)) = true := decide_eq_true c11; clear c11; by_cases c12 : x17_1 < (l0_0.length : Int)
        ·
         rw [if_pos c12] at H; have c12b0 : decide (x17_1 < (l0_0.length : Int)) = true := decide_eq_true c12; clear c12; by_cases c13 : 0 ≤ ((rd_T25 l0_0 x17_1).f3)
         ·
          rw [if_pos c13] at H; have c13b0 : decide (0 ≤ ((rd_T25 l0_0 x17_1).f3)) = true := decide_eq_true c13; clear c13; by_cases c14 : ((rd_T25 l0_0 x17_1).f3) < (x5_1.length : Int)
          ·
           rw [if_pos c14] at H; have c14b0 : decide (((rd_T25 l0_0 x17_1).f3) < (x5_1.length : Int)) = true := decide_eq_true c14; clear c14; obtain ⟨y112, hy112⟩ : ∃ y_ : List Int, y_ = (x5_1.set (((rd_T25 l0_0 x17_1).f3) : Int).toNat (wrap64 ((rd x5_1 ((rd_T25 l0_0 x17_1).f3)) + (wrap64 ((rd l1 x17_1) * ((rd_T25 l0_0 x17_1).f1)))))) := ⟨_, rfl⟩; replace H : (lots_worth.l0 k1 y112 l1 (l1.length : Int) (wrap64 (x17_1 + 1)) l0_0 l0_1 a0_2) = some r := by first | (rw [hy112]; with_reducible exact H) | (have H2_ := (Option.bind_some _ _).symm.trans H; rw [hy112]; with_reducible exact H2_) | (have H2_ := (Option.bind_some _ _).symm.trans H; with_reducible exact H2_) | with_reducible exact H | (rw [hy112]; exact H) | exact H
           have Ny112 := Aside0.mk hy112; clear hy112; have H' := Aside0.mk H; clear H; have p108 : 0 ≤ (x17_1 : Int) := of_decide_eq_true zA; have q108 : x17_1 < (l1.length : Int) := of_decide_eq_true zA; obtain ⟨ad108, e108, hx108_0⟩ := Kd.at_int HR1.out x17_1 p108 q108
           cases e108
           replace hx108_0 := (HB.out.cell (World.block_lt_of_cell? w _ hx108_0)).trans hx108_0; replace p108 := eq_true p108; replace q108 := eq_true q108
           try go_wp2
           have n0_ := Aside0.mk (Kd.R_drew HO_5.out); have n1_ := Aside0.mk (blk_drew BK104.out); have n2_ := Aside0.mk (below_drew1 HB.out); clear HO_5; clear BK104; clear HB; have HO_5 := n0_; have BK104 := n1_; have HB := n2_; clear n0_ n1_ n2_; have p109 : 0 ≤ (x17_1 : Int) := of_decide_eq_true zA; have q109 : x17_1 < (l0_0.length : Int) := of_decide_eq_true zA; obtain ⟨ad109, e109, hx109_0, hx109_1, hx109_2, hx109_3⟩ := at_T25 HR0_0.out x17_1 p109 q109; have hw109_3 := hx109_3; have hw109_2 := hx109_2; have hw109_1 := hx109_1; have hw109_0 := hx109_0
           cases e109
           replace hx109_0 := (HB.out.cell (World.block_lt_of_cell? w _ hx109_0)).trans hx109_0; replace hx109_1 := (HB.out.cell (World.block_lt_of_cell? w _ hx109_1)).trans hx109_1; replace hx109_2 := (HB.out.cell (World.block_lt_of_cell? w _ hx109_2)).trans hx109_2; replace hx109_3 := (HB.out.cell (World.block_lt_of_cell? w _ hx109_3)).trans hx109_3; replace p109 := eq_true p109; replace q109 := eq_true q109; obtain ⟨Ao17, co17, eo17⟩ := Kd.R_slice HO_5.out
           (first | subst eo17 | (injection eo17 with f1_ f2_ f3_; have f4_ := f1_.symm; have f5_ := f3_.symm; clear f1_ f2_ f3_; subst f4_; subst f5_))
           have p110 : 0 ≤ (((rd_T25 l0_0 x17_1).f3) : Int) := of_decide_eq_true zA; have q110 : ((rd_T25 l0_0 x17_1).f3) < (x5_1.length : Int) := of_decide_eq_true zA; obtain ⟨ad110, e110, hx110_0⟩ := Kd.at_int (Kd.R_reads' HO_5.out).2.2 ((rd_T25 l0_0 x17_1).f3) p110 q110
           cases e110
           replace p110 := eq_true p110; replace q110 := eq_true q110; have p111 : 0 ≤ (x17_1 : Int) := of_decide_eq_true zA; have q111 : x17_1 < (l0_0.length : Int) := of_decide_eq_true zA; obtain ⟨ad111, e111, hx111_0, hx111_1, hx111_2, hx111_3⟩ := at_T25 HR0_0.out x17_1 p111 q111; have hw111_3 := hx111_3; have hw111_2 := hx111_2; have hw111_1 := hx111_1; have hw111_0 := hx111_0; obtain rfl : ad109 = ad111 := (by injection e111); replace hx111_0 := (HB.out.cell (World.block_lt_of_cell? w _ hx111_0)).trans hx111_0; replace hx111_1 := (HB.out.cell (World.block_lt_of_cell? w _ hx111_1)).trans hx111_1; replace hx111_2 := (HB.out.cell (World.block_lt_of_cell? w _ hx111_2)).trans hx111_2; replace hx111_3 := (HB.out.cell (World.block_lt_of_cell? w _ hx111_3)).trans hx111_3; replace p111 := eq_true p111; replace q111 := eq_true q111; have p15 : 0 ≤ (((rd_T25 l0_0 x17_1).f3) : Int) := of_decide_eq_true zA; have q15 : (((rd_T25 l0_0 x17_1).f3) : Int) < ((x5_1.length : Int) : Int) := of_decide_eq_true zA; obtain ⟨go15, co15, eo15, gb15, gl15, cl15, HG15⟩ := Kd.R_form HO_5.out (by omega)
           (first | cases eo15 | (injection eo15 with ea_ en_ ec_; (first | subst ea_ | (injection ea_ with ea_; subst ea_)); subst ec_; clear en_))
           have GB15 := Aside0.mk gb15; have GG15 := Aside0.mk HG15; clear gb15 gl15 HG15
           (first | simp only [add_plain] at hx110_0 | skip)
           obtain ⟨hx15_0, hf15_0⟩ := Kd.R_celln 0 HO_5.out (((rd_T25 l0_0 x17_1).f3) : Int) p15 q15; replace p15 := eq_true p15; replace q15 := eq_true q15; have HP18 := Kd.R_putn HO_5.out (((rd_T25 l0_0 x17_1).f3) : Int) (wrap64 ((rd x5_1 ((rd_T25 l0_0 x17_1).f3)) + (wrap64 ((rd l1 x17_1) * ((rd_T25 l0_0 x17_1).f1))))); rw [← Ny112.out] at HP18; have HQ18 := Aside0.mk HP18; clear HP18; refine start_ (n := 20) (S := fun w' => w'.cell? ⟨gb104, 0, none⟩ = some (.slice (some ad109) l0_0.length c0_0) ∧ w'.cell? ⟨gb104, 1, none⟩ = some (.slice A0_1 l0_1.length c0_1) ∧ w'.cell? ⟨gb104, 2, none⟩ = some (.int .i64 a0_2) ∧ w'.cell? (ad109.add ((x17_1).toNat * 4)) = some (.int .i64 ((rd_T25 l0_0 x17_1).f0)) ∧ w'.cell? ⟨(ad109.add ((x17_1).toNat * 4)).block, (ad109.add ((x17_1).toNat * 4)).off + 1, none⟩ = some (.int .i64 ((rd_T25 l0_0 x17_1).f1)) ∧ w'.cell? ⟨(ad109.add ((x17_1).toNat * 4)).block, (ad109.add ((x17_1).toNat * 4)).off + 2, none⟩ = some (.int .i64 ((rd_T25 l0_0 x17_1).f2)) ∧ w'.cell? ⟨(ad109.add ((x17_1).toNat * 4)).block, (ad109.add ((x17_1).toNat * 4)).off + 3, none⟩ = some (.int .i64 ((rd_T25 l0_0 x17_1).f3)) ∧ w'.cell? ⟨go15, (((rd_T25 l0_0 x17_1).f3)).toNat, none⟩ = some (.int .i64 (rd x5_1 ((rd_T25 l0_0 x17_1).f3))) ∧ w'.cell? (ad109.add ((x17_1).toNat * 4)) = some (.int .i64 ((rd_T25 l0_0 x17_1).f0)) ∧ w'.cell? ⟨(ad109.add ((x17_1).toNat * 4)).block, (ad109.add ((x17_1).toNat * 4)).off + 1, none⟩ = some (.int .i64 ((rd_T25 l0_0 x17_1).f1)) ∧ w'.cell? ⟨(ad109.add ((x17_1).toNat * 4)).block, (ad109.add ((x17_1).toNat * 4)).off + 2, none⟩ = some (.int .i64 ((rd_T25 l0_0 x17_1).f2)) ∧ w'.cell? ⟨(ad109.add ((x17_1).toNat * 4)).block, (ad109.add ((x17_1).toNat * 4)).off + 3, none⟩ = some (.int .i64 ((rd_T25 l0_0 x17_1).f3))) (ds := [19]) z1f2f_m0 (by kernel_rfl) rfl rfl ⟨(blk_cell BK104.out 0).trans rfl, (blk_cell BK104.out 1).trans rfl, (blk_cell BK104.out 2).trans rfl, ((HB.out.cell (World.block_lt_of_cell? w _ hw109_0)).trans hw109_0), ((HB.out.cell (World.block_lt_of_cell? w _ hw109_1)).trans hw109_1), ((HB.out.cell (World.block_lt_of_cell? w _ hw109_2)).trans hw109_2), ((HB.out.cell (World.block_lt_of_cell? w _ hw109_3)).trans hw109_3), hx110_0, ((HB.out.cell (World.block_lt_of_cell? w _ hw111_0)).trans hw111_0), ((HB.out.cell (World.block_lt_of_cell? w _ hw111_1)).trans hw111_1), ((HB.out.cell (World.block_lt_of_cell? w _ hw111_2)).trans hw111_2), ((HB.out.cell (World.block_lt_of_cell? w _ hw111_3)).trans hw111_3)⟩ (fun hHeld => ?_); refine with_tabW lots_worth.tab5 lots_worth.bits5 (fun HT_ HW_ => ?_); generalize wr.drew = w16 at HO_5 BK104 HB GG15 HQ18 hf15_0 hx109_0 hx109_1 hx109_2 hx109_3 hx110_0 hx111_0 hx111_1 hx111_2 hx111_3 hx15_0 hHeld ⊢; refine zU 0 22 z1f2f_m1 HT_ ?_; refine zU 1 23 z1f2f_m2 HT_ ?_; refine zU 3 25 z1f2f_m3 HT_ ?_; refine zU 9 31 z1f2f_m4 HT_ ?_; refine zU 10 32 z1f2f_m5 HT_ ?_; refine zU 12 34 z1f2f_m6 HT_ ?_; refine take_ (i := 2) (N := some 24) (v := ?_) (a' := ?_) z1f2f_m7 rfl rfl (take_ofW HT_.out HW_.out (by kernel_rfl)) (fun _ _ _ h => h) (Or.inl ⟨by rfl, ?_⟩) hHeld ?_ ?_; rotate_left
           ·
            rintro w' ⟨s0, s1, s2, s3, s4, s5, s6, s7, s8, s9, s10, s11⟩; go_simp
            with_reducible rfl
           rotate_left
           · simp only [Act.put, zq1, zq2, zq3, i64_w, i32_w]; rfl
           refine zU 4 26 z1f2f_m8 HT_ ?_; refine zU 5 27 z1f2f_m9 HT_ ?_; refine take_ (i := 6) (N := some 28) (v := ?_) (a' := ?_) z1f2f_m10 rfl rfl (take_ofW HT_.out HW_.out (by kernel_rfl)) (fun _ _ _ h => h) (Or.inl ⟨by rfl, ?_⟩) hHeld ?_ ?_; rotate_left
           ·
            rintro w' ⟨s0, s1, s2, s3, s4, s5, s6, s7, s8, s9, s10, s11⟩; go_simp
            with_reducible rfl
           rotate_left
           · simp only [Act.put, zq1, zq2, zq3, i64_w, i32_w]; rfl
           refine zU 7 29 z1f2f_m11 HT_ ?_; refine take_ (i := 8) (N := some 30) (v := ?_) (a' := ?_) z1f2f_m12 rfl rfl (take_ofW HT_.out HW_.out (by kernel_rfl)) (fun _ _ _ h => h) (Or.inl ⟨by rfl, ?_⟩) hHeld ?_ ?_; rotate_left
           ·
            rintro w' ⟨s0, s1, s2, s3, s4, s5, s6, s7, s8, s9, s10, s11⟩; go_simp
            with_reducible rfl
           rotate_left
           · simp only [Act.put, zq1, zq2, zq3, i64_w, i32_w]; rfl
           refine take_ (i := 11) (N := some 33) (v := ?_) (a' := ?_) z1f2f_m13 rfl rfl (take_ofW HT_.out HW_.out (by kernel_rfl)) (fun _ _ _ h => h) (Or.inl ⟨by rfl, ?_⟩) hHeld ?_ ?_; rotate_left
           ·
            rintro w' ⟨s0, s1, s2, s3, s4, s5, s6, s7, s8, s9, s10, s11⟩; go_simp
            with_reducible rfl
           rotate_left
           · simp only [Act.put, zq1, zq2, zq3, i64_w, i32_w]; rfl
           refine zU 13 35 z1f2f_m14 HT_ ?_; refine zU 14 36 z1f2f_m15 HT_ ?_; refine take_ (i := 15) (N := some 37) (v := ?_) (a' := ?_) z1f2f_m16 rfl rfl (take_ofW HT_.out HW_.out (by kernel_rfl)) (fun _ _ _ h => h) (Or.inl ⟨by rfl, ?_⟩) hHeld ?_ ?_; rotate_left
           ·
            rintro w' ⟨s0, s1, s2, s3, s4, s5, s6, s7, s8, s9, s10, s11⟩; go_simp
            with_reducible rfl
           rotate_left
           · simp only [Act.put, zq1, zq2, zq3, i64_w, i32_w]; rfl
           refine zU 16 38 z1f2f_m17 HT_ ?_; refine zU 17 39 z1f2f_m18 HT_ ?_; refine zU 18 40 z1f2f_m19 HT_ ?_; refine last_ (i := 19) (N := none) z1f2f_m20 rfl rfl (one_of HT_.out (by kernel_rfl)) (by decide) (fun K hK => ?_); refine skip_ (w1 := ?_) (by rfl) rfl ?_ ?_; rotate_left
           ·
            go_simp; rfl
           refine hK.out _ _ ?_; clear hK K; refine done_ (done_of HT_.out (by kernel_rfl)) ?_
           try go_wp2
           go_roundg k1
           case measure => have := HK1.out; omega
           case rel => exact ⟨(y112), (wrap64 (x17_1 + 1)), zS, H', ⟨by have := HK1.out; omega⟩, ⟨by (with_reducible repeat (first | apply Kd.R_alloc | apply Kd.R_drewN | apply Kd.R_drew)); exact HQ18.out⟩, ⟨by (with_reducible repeat (first | refine blk_drewN ?_ _ | refine blk_drew ?_ | refine blk_alloc ?_ _)); refine blk_far ?_ (by have h_ := Kd.R_ne HO_5.out BK104.out (by decide); intro e_; exact h_ (by rw [e_]; rfl)) _; (with_reducible repeat (first | refine blk_drewN ?_ _ | refine blk_drew ?_ | refine blk_alloc ?_ _)); exact BK104.out⟩, ⟨zH2 HB.out GB15.out GE104.out⟩⟩
          ·
           rw [if_neg c14] at H; exact absurd H (by simp)
         ·
          rw [if_neg c13] at H; exact absurd H (by simp)
        ·
         rw [if_neg c12] at H; exact absurd H (by simp)
       ·
        rw [if_neg c11] at H; exact absurd H (by simp)
      ·
       rw [if_neg c10] at H; exact absurd H (by simp)
     ·
      rw [if_neg c9] at H; have c9b0 : decide (x17_1 < (l1.length : Int)) = false := decide_eq_false c9; clear c9; have H' := Aside0.mk H; clear H; obtain ⟨Ao19, co19, eo19⟩ := Kd.R_slice HO_5.out; subst eo19
      go_wp2
      go_loopg [8, 44] k1 (fun kq v8 v44 w' => ∃ (x8_2 : Int) (x44_2 : Int), v8 = .int .i64 x8_2 ∧ v44 = .int .i64 x44_2 ∧ Aside0 (lots_worth.l1 kq x8_2 x5_1 (x5_1.length : Int) x44_2 l0_0 l0_1 a0_2 = some r) ∧ Aside0 (kq ≤ k1) ∧ Aside0 (Kd.R (Kd.int .i64) 2 w' w.heap.size (fun _ => True) (.slice Ao19 x5_1.length co19) x5_1) ∧ Aside0 (w'.heap[gb104]? = some (.cells #[(.slice A0_0 l0_0.length c0_0), (.slice A0_1 l0_1.length c0_1), .int .i64 a0_2] 29 (0, 0))) ∧ Aside0 (Below w.heap.size w w'))
      case atStart => exact ⟨(0), (0), zS, zS, H', ⟨Nat.le_refl _⟩, ⟨by (with_reducible repeat (first | apply Kd.R_alloc | apply Kd.R_drewN | apply Kd.R_drew)); exact HO_5.out⟩, ⟨zB BK104.out⟩, ⟨zH1 HB.out GE104.out⟩⟩
      case round =>
       clear H'
       try clear c1
       try clear p1
       try clear q1
       try clear hx1
       try clear c2
       try clear p2
       try clear c3
       try clear c3b0
       try clear c3b1
       try clear c4
       try clear c4b0
       try clear c4b1
       try clear p6
       try clear c9
       try clear c9b0
       try clear c10
       try clear c10b0
       try clear p10
       try clear q10
       try clear hx10
       try clear c11
       try clear c11b0
       try clear p11
       try clear q11
       try clear hx11
       try clear c12
       try clear c12b0
       try clear c13
       try clear c13b0
       try clear c14
       try clear c14b0
       try clear p15
       try clear q15
       try clear hx15
       try clear hf15
       try clear hcz6_0
       try clear hcz6_1
       try clear hcz6_2
       try clear hfz6_0
       try clear hfz6_1
       try clear hfz6_2
       try clear hx108_0
       try clear hx109_0
       try clear hx109_1
       try clear hx109_2
       try clear hx109_3
       try clear hx110_0
       try clear hx111_0
       try clear hx111_1
       try clear hx111_2
       try clear hx111_3
       try clear hx15_0
       try clear p108
       try clear p109
       try clear p110
       try clear p111
       try clear p15
       try clear p2
       try clear q108
       try clear q109
       try clear q110
       try clear q111
       try clear q15
       obtain ⟨x8_2, x44_2, rfl, rfl, HA, HK2, HO_42, BK104, HB⟩ := hrel
       cases gk with
       | zero => exact absurd HA.out (by simp [lots_worth.l1])
       | succ k2 =>
        have H := HA.out; clear HA; simp only [lots_worth.l1] at H; by_cases c20 : x44_2 < (x5_1.length : Int)
        ·
         rw [if_pos c20] at H; have c20b0 : decide (x44_2 < (x5_1.length : Int)) = true := decide_eq_true c20; clear c20; by_cases c21 : 0 ≤ x44_2
         ·
          rw [if_pos c21] at H; have c21b0 : decide (0 ≤ x44_2) = true := decide_eq_true c21; clear c21; by_cases c22 : x44_2 < (x5_1.length : Int)
          ·
           rw [if_pos c22] at H; have c22b0 : decide (x44_2 < (x5_1.length : Int)) = true := decide_eq_true c22; clear c22; by_cases c23 : x44_2 < (l0_1.length : Int)
           ·
            rw [if_pos c23] at H; have c23b0 : decide (x44_2 < (l0_1.length : Int)) = true := decide_eq_true c23; clear c23; by_cases c24 : (rd l0_1 x44_2) > 0
            ·
             rw [if_pos c24] at H; have c24b0 : decide (0 < (rd l0_1 x44_2)) = true := decide_eq_true c24; clear c24; obtain ⟨ji25, hji25⟩ : ∃ j_ : Int, (mn (rd x5_1 x44_2) (rd l0_1 x44_2)) = j_ := ⟨_, rfl⟩; replace H : (lots_worth.l1 k2 (wrap64 (x8_2 + (ji25))) x5_1 (x5_1.length : Int) (wrap64 (x44_2 + 1)) l0_0 l0_1 a0_2) = some r := by first | (rw [hji25] at H; exact H) | (simp only [hji25] at H ⊢; exact H)
             have hji25_ : (if (rd l0_1 x44_2) < (rd x5_1 x44_2) then (rd l0_1 x44_2) else (rd x5_1 x44_2)) = ji25 := hji25; have H' := Aside0.mk H; clear H; have p113 : 0 ≤ (x44_2 : Int) := of_decide_eq_true zA; have q113 : x44_2 < (x5_1.length : Int) := of_decide_eq_true zA; obtain ⟨ad113, e113, hx113_0⟩ := Kd.at_int (Kd.R_reads' HO_42.out).2.2 x44_2 p113 q113
             cases e113
             replace p113 := eq_true p113; replace q113 := eq_true q113; have hcz26_0 : wr.cell? ⟨gb104, 0, none⟩ = some (.slice A0_0 l0_0.length c0_0) := (blk_cell BK104.out 0).trans rfl; have hcz26_1 : wr.cell? ⟨gb104, 1, none⟩ = some (.slice A0_1 l0_1.length c0_1) := (blk_cell BK104.out 1).trans rfl; have hcz26_2 : wr.cell? ⟨gb104, 2, none⟩ = some (.int .i64 a0_2) := (blk_cell BK104.out 2).trans rfl; have hfz26_0 := blk_frozen BK104.out 0; have hfz26_1 := blk_frozen BK104.out 1; have hfz26_2 := blk_frozen BK104.out 2; have p114 : 0 ≤ (x44_2 : Int) := of_decide_eq_true zA; have q114 : x44_2 < (l0_1.length : Int) := of_decide_eq_true zA; obtain ⟨ad114, e114, hx114_0⟩ := Kd.at_int HR0_1.out x44_2 p114 q114
             cases e114
             replace hx114_0 := (HB.out.cell (World.block_lt_of_cell? w _ hx114_0)).trans hx114_0; replace p114 := eq_true p114; replace q114 := eq_true q114; have p115 : 0 ≤ (x44_2 : Int) := of_decide_eq_true zA; have q115 : x44_2 < (l0_1.length : Int) := of_decide_eq_true zA; obtain ⟨ad115, e115, hx115_0⟩ := Kd.at_int HR0_1.out x44_2 p115 q115; obtain rfl : ad114 = ad115 := (by injection e115); replace hx115_0 := (HB.out.cell (World.block_lt_of_cell? w _ hx115_0)).trans hx115_0; replace p115 := eq_true p115; replace q115 := eq_true q115
             go_wp2
             go_roundg k2
             case measure => have := HK1.out; have := HK2.out; omega
             case rel => exact ⟨(wrap64 (x8_2 + (ji25))), (wrap64 (x44_2 + 1)), (by first | rfl | (simp; done) | (simp only [← hji25] <;> (first | rfl | simp)) | (simp [*]; done)), zS, H', ⟨by have := HK1.out; have := HK2.out; omega⟩, ⟨by (with_reducible repeat (first | apply Kd.R_alloc | apply Kd.R_drewN | apply Kd.R_drew)); exact HO_42.out⟩, ⟨zB BK104.out⟩, ⟨zH1 HB.out GE104.out⟩⟩
            ·
             rw [if_neg c24] at H; have c24b0 : decide (0 < (rd l0_1 x44_2)) = false := decide_eq_false c24; clear c24; have H' := Aside0.mk H; clear H; have p113 : 0 ≤ (x44_2 : Int) := of_decide_eq_true zA; have q113 : x44_2 < (x5_1.length : Int) := of_decide_eq_true zA; obtain ⟨ad113, e113, hx113_0⟩ := Kd.at_int (Kd.R_reads' HO_42.out).2.2 x44_2 p113 q113
             cases e113
             replace p113 := eq_true p113; replace q113 := eq_true q113; have hcz27_0 : wr.cell? ⟨gb104, 0, none⟩ = some (.slice A0_0 l0_0.length c0_0) := (blk_cell BK104.out 0).trans rfl; have hcz27_1 : wr.cell? ⟨gb104, 1, none⟩ = some (.slice A0_1 l0_1.length c0_1) := (blk_cell BK104.out 1).trans rfl; have hcz27_2 : wr.cell? ⟨gb104, 2, none⟩ = some (.int .i64 a0_2) := (blk_cell BK104.out 2).trans rfl; have hfz27_0 := blk_frozen BK104.out 0; have hfz27_1 := blk_frozen BK104.out 1; have hfz27_2 := blk_frozen BK104.out 2; have p114 : 0 ≤ (x44_2 : Int) := of_decide_eq_true zA; have q114 : x44_2 < (l0_1.length : Int) := of_decide_eq_true zA; obtain ⟨ad114, e114, hx114_0⟩ := Kd.at_int HR0_1.out x44_2 p114 q114
             cases e114
             replace hx114_0 := (HB.out.cell (World.block_lt_of_cell? w _ hx114_0)).trans hx114_0; replace p114 := eq_true p114; replace q114 := eq_true q114
             go_wp2
             go_roundg k2
             case measure => have := HK1.out; have := HK2.out; omega
             case rel => exact ⟨(wrap64 (x8_2 + (rd x5_1 x44_2))), (wrap64 (x44_2 + 1)), zS, zS, H', ⟨by have := HK1.out; have := HK2.out; omega⟩, ⟨by (with_reducible repeat (first | apply Kd.R_alloc | apply Kd.R_drewN | apply Kd.R_drew)); exact HO_42.out⟩, ⟨zB BK104.out⟩, ⟨zH1 HB.out GE104.out⟩⟩
           ·
            rw [if_neg c23] at H; exact absurd H (by simp)
          ·
           rw [if_neg c22] at H; exact absurd H (by simp)
         ·
          rw [if_neg c21] at H; exact absurd H (by simp)
        ·
         rw [if_neg c20] at H; have c20b0 : decide (x44_2 < (x5_1.length : Int)) = false := decide_eq_false c20; clear c20; obtain rfl := Option.some.inj H
         go_wp2
         go_ret
         exact ⟨zE, zH1 HB.out GE104.out⟩
  ·
   rw [if_neg c4] at H; exact absurd H (by simp)
 ·
  rw [if_neg c3] at H; exact absurd H (by simp)

/-! ### fix_size: function 67 -/
def fix_size.f (a0 : Int) : Option (Int × Bool) := if a0 < 0 then (some (IntKind.u64.wrap (-(IntKind.u64.wrap (a0))), true)) else (some (IntKind.u64.wrap (a0), false))
set_option maxHeartbeats 8000000 in
set_option maxRecDepth 100000 in
theorem fix_size.calls [Inhabited (Int → Addr)] (a0 : Int) (r1 : Int) (r2 : Bool) (w : World) (h : fix_size.f a0 = some (r1, r2)) :
    Calls Tryd.prog 67 #[.int .i64 a0] w fun e w' => e = .returned (.tuple #[.int .u64 r1, .bool r2]) ∧ Drawn0 w w' := by
  have H : (if a0 < 0 then (some (IntKind.u64.wrap (-(IntKind.u64.wrap (a0))), true)) else (some (IntKind.u64.wrap (a0), false))) = some (r1, r2) := h; clear h; by_cases c2 : a0 < 0
  · rw [if_pos c2] at H
    have c2b0 : decide (a0 < 0) = true := decide_eq_true c2; clear c2; simp only [Option.some.injEq, Prod.mk.injEq] at H; obtain ⟨rfl, rfl⟩ := H
    go_enter Tryd.func67, Tryd.ntmps67
    go_wp2
    go_ret2
    exact ⟨zF, zD⟩
  · rw [if_neg c2] at H
    have c2b0 : decide (a0 < 0) = false := decide_eq_false c2; clear c2; simp only [Option.some.injEq, Prod.mk.injEq] at H; obtain ⟨rfl, rfl⟩ := H
    go_enter Tryd.func67, Tryd.ntmps67
    go_wp2
    go_ret2
    exact ⟨zF, zD⟩

/-! ### fix_Wide: function 68 -/
def fix_Wide.f (a0 : Int) (a1 : Int) : Option (Int × Int) := some (IntKind.u64.wrap ((IntKind.u64.wrap ((IntKind.u64.wrap ((a0 / 4294967296) * (a1 / 4294967296))) + ((IntKind.u64.wrap ((IntKind.u64.wrap ((a0 / 4294967296) * (Go.bits .and .u64 a1 4294967295))) + ((IntKind.u64.wrap ((Go.bits .and .u64 a0 4294967295) * (Go.bits .and .u64 a1 4294967295))) / 4294967296))) / 4294967296))) + ((IntKind.u64.wrap ((IntKind.u64.wrap ((Go.bits .and .u64 a0 4294967295) * (a1 / 4294967296))) + (Go.bits .and .u64 (IntKind.u64.wrap ((IntKind.u64.wrap ((a0 / 4294967296) * (Go.bits .and .u64 a1 4294967295))) + ((IntKind.u64.wrap ((Go.bits .and .u64 a0 4294967295) * (Go.bits .and .u64 a1 4294967295))) / 4294967296))) 4294967295))) / 4294967296)), IntKind.u64.wrap (a0 * a1))
set_option maxHeartbeats 8000000 in
set_option maxRecDepth 100000 in
theorem fix_Wide.calls [Inhabited (Int → Addr)] (a0 : Int) (a1 : Int) (r1 : Int) (r2 : Int) (w : World) (h : fix_Wide.f a0 a1 = some (r1, r2)) :
    Calls Tryd.prog 68 #[.int .u64 a0, .int .u64 a1] w fun e w' => e = .returned (.tuple #[.int .u64 r1, .int .u64 r2]) ∧ Drawn0 w w' := by
  have H : (some (IntKind.u64.wrap ((IntKind.u64.wrap ((IntKind.u64.wrap ((a0 / 4294967296) * (a1 / 4294967296))) + ((IntKind.u64.wrap ((IntKind.u64.wrap ((a0 / 4294967296) * (Go.bits .and .u64 a1 4294967295))) + ((IntKind.u64.wrap ((Go.bits .and .u64 a0 4294967295) * (Go.bits .and .u64 a1 4294967295))) / 4294967296))) / 4294967296))) + ((IntKind.u64.wrap ((IntKind.u64.wrap ((Go.bits .and .u64 a0 4294967295) * (a1 / 4294967296))) + (Go.bits .and .u64 (IntKind.u64.wrap ((IntKind.u64.wrap ((a0 / 4294967296) * (Go.bits .and .u64 a1 4294967295))) + ((IntKind.u64.wrap ((Go.bits .and .u64 a0 4294967295) * (Go.bits .and .u64 a1 4294967295))) / 4294967296))) 4294967295))) / 4294967296)), IntKind.u64.wrap (a0 * a1))) = some (r1, r2) := h; clear h; simp only [Option.some.injEq, Prod.mk.injEq] at H; obtain ⟨rfl, rfl⟩ := H
  go_enter Tryd.func68, Tryd.ntmps68
  go_wp2
  go_ret2
  exact ⟨zF, zD⟩

/-! ### bits_Add64: function 69 -/
theorem bits_Add64_run (x y c : Int) (hx : 0 ≤ x) (hy : 0 ≤ y) (h0 : 0 ≤ c) (h1 : c ≤ 1) (w : World) :
    (callFunc 69 #[.int .u64 x, .int .u64 y, .int .u64 c]).run Tryd.prog w = .ok (.value (.tuple #[.int .u64 ((x + y + c) % 18446744073709551616), .int .u64 ((x + y + c) / 18446744073709551616)])) w := by
  rw [run_callFunc_extern Tryd.func69 (by kernel_rfl) (by kernel_rfl) (by kernel_rfl) (e := add64Entry) (by kernel_rfl), run_add64 x y c hx hy h0 h1]; rfl

/-! ### fix_product: function 58 -/
def fix_product.f (a0 : Int) (a1 : Int) : Option (Int × Int) := (fix_size.f a0).bind fun bt117 => ((fix_size.f a1).bind fun bt119 => ((fix_Wide.f bt117.1 bt119.1).bind fun bt121 => (if (bt117.2 == bt119.2) = true then (some (wrap64 (bt121.1), bt121.2)) else (if 0 ≤ (Go.bits .xor .u64 IntKind.u64.max bt121.2) then (some (wrap64 (IntKind.u64.wrap ((Go.bits .xor .u64 IntKind.u64.max bt121.1) + (((Go.bits .xor .u64 IntKind.u64.max bt121.2) + 1) / 18446744073709551616))), ((Go.bits .xor .u64 IntKind.u64.max bt121.2) + 1) % 18446744073709551616)) else (none)))))
set_option maxHeartbeats 8000000 in
set_option maxRecDepth 100000 in
theorem fix_product.calls [Inhabited (Int → Addr)] (a0 : Int) (a1 : Int) (r1 : Int) (r2 : Int) (w : World) (h : fix_product.f a0 a1 = some (r1, r2)) :
  Calls Tryd.prog 58 #[.int .i64 a0, .int .i64 a1] w fun e w' => e = .returned (.agg #[.int .i64 r1, .int .u64 r2]) ∧ Below w.heap.size w w' := by
 have hu88 := Tryd.underlying88; have HB := Aside0.mk (Below.refl w.heap.size w); have H : ((fix_size.f a0).bind fun bt117 => ((fix_size.f a1).bind fun bt119 => ((fix_Wide.f bt117.1 bt119.1).bind fun bt121 => (if (bt117.2 == bt119.2) = true then (some (wrap64 (bt121.1), bt121.2)) else (if 0 ≤ (Go.bits .xor .u64 IntKind.u64.max bt121.2) then (some (wrap64 (IntKind.u64.wrap ((Go.bits .xor .u64 IntKind.u64.max bt121.1) + (((Go.bits .xor .u64 IntKind.u64.max bt121.2) + 1) / 18446744073709551616))), ((Go.bits .xor .u64 IntKind.u64.max bt121.2) + 1) % 18446744073709551616)) else (none)))))) = some (r1, r2) := h; clear h; replace H := Option.bind_eq_some_iff.mp H; obtain ⟨⟨t117, t118⟩, A30, H⟩ := H; replace H : ((fix_size.f a1).bind fun bt119 => ((fix_Wide.f t117 bt119.1).bind fun bt121 => (if (t118 == bt119.2) = true then (some (wrap64 (bt121.1), bt121.2)) else (if 0 ≤ (Go.bits .xor .u64 IntKind.u64.max bt121.2) then (some (wrap64 (IntKind.u64.wrap ((Go.bits .xor .u64 IntKind.u64.max bt121.1) + (((Go.bits .xor .u64 IntKind.u64.max bt121.2) + 1) / 18446744073709551616))), ((Go.bits .xor .u64 IntKind.u64.max bt121.2) + 1) % 18446744073709551616)) else (none))))) = some (r1, r2) := H; have A3 := Aside0.mk A30; clear A30; replace H := Option.bind_eq_some_iff.mp H; obtain ⟨⟨t119, t120⟩, A40, H⟩ := H; replace H : ((fix_Wide.f t117 t119).bind fun bt121 => (if (t118 == t120) = true then (some (wrap64 (bt121.1), bt121.2)) else (if 0 ≤ (Go.bits .xor .u64 IntKind.u64.max bt121.2) then (some (wrap64 (IntKind.u64.wrap ((Go.bits .xor .u64 IntKind.u64.max bt121.1) + (((Go.bits .xor .u64 IntKind.u64.max bt121.2) + 1) / 18446744073709551616))), ((Go.bits .xor .u64 IntKind.u64.max bt121.2) + 1) % 18446744073709551616)) else (none)))) = some (r1, r2) := H; have A4 := Aside0.mk A40; clear A40; replace H := Option.bind_eq_some_iff.mp H; obtain ⟨⟨t121, t122⟩, A50, H⟩ := H; replace H : (if (t118 == t120) = true then (some (wrap64 (t121), t122)) else (if 0 ≤ (Go.bits .xor .u64 IntKind.u64.max t122) then (some (wrap64 (IntKind.u64.wrap ((Go.bits .xor .u64 IntKind.u64.max t121) + (((Go.bits .xor .u64 IntKind.u64.max t122) + 1) / 18446744073709551616))), ((Go.bits .xor .u64 IntKind.u64.max t122) + 1) % 18446744073709551616)) else (none))) = some (r1, r2) := H; have A5 := Aside0.mk A50; clear A50; by_cases c6 : (t118 == t120) = true
 ·
  rw [if_pos c6] at H; have c6b0 : (t118 == t120) = true := c6; (try (have c6b1 : decide (t118 = t120) = true := by simpa using c6)); (try (have c6b2 : (t118 == t120) = true := by simpa using c6)); clear c6; simp only [Option.some.injEq, Prod.mk.injEq] at H; obtain ⟨rfl, rfl⟩ := H
  go_enter Tryd.func58, Tryd.ntmps58
  go_wp2_with (first | ((with_reducible refine gate_dst (N := 4) rfl ?_); refine box_event ?hg (N := 4) ?hd (cs := #[.int .i64 0, .int .u64 0]) (t := 88) ?hr ?_; (case hd => rfl); (case hg => rfl); (case hr => first | (go_simp; done) | (go_simp; rfl)); intro gb116 hg w7 hbox hb; have n0_ := Aside0.mk (below_step (zH HB.out) hb); have n1_ := Aside0.mk (hbox); have n2_ := Aside0.mk (zg hg (below_size (zH HB.out)) : w.heap.size ≤ gb116); have n3_ := Aside0.mk (zg hg (below_size (zH HB.out)) : w.heap.size ≤ gb116); clear HB; have HB := n0_; have BK116 := n1_; have GW116 := n2_; have GE116 := n3_; clear n0_ n1_ n2_ n3_; clear hb hbox hg) | ((with_reducible refine gate_callee (f := 67) rfl ?_); refine goesL_ (some 14) rfl rfl Tryd.func67 (by kernel_rfl) rfl #[.int .i64 a0] rfl zM ?_; (with_reducible refine (fix_size.calls a0 t117 t118 _ A3.out).mono ?_); rintro e w' ⟨rfl, ⟨nd, rfl⟩⟩; refine ⟨_, rfl, ?_⟩; (try (rw [drewN_self w7]; generalize hq_ : World.drewN w7 _ = w7; have n0_ : Aside0 (w7.heap[gb116]? = some (.cells #[.int .i64 0, .int .u64 0] 88 (0, 0))) := ⟨by rw [← hq_]; exact (zB BK116.out)⟩; have n1_ : Aside0 (Below w.heap.size w w7) := ⟨by rw [← hq_]; exact (zH1 HB.out GE116.out)⟩; clear BK116 HB hq_; have BK116 := n0_; have HB := n1_; clear n0_ n1_))) | ((with_reducible refine gate_callee (f := 67) rfl ?_); refine goesL_ (some 19) rfl rfl Tryd.func67 (by kernel_rfl) rfl #[.int .i64 a1] rfl zM ?_; (with_reducible refine (fix_size.calls a1 t119 t120 _ A4.out).mono ?_); rintro e w' ⟨rfl, ⟨nd, rfl⟩⟩; refine ⟨_, rfl, ?_⟩; (try (rw [drewN_self w7]; generalize hq_ : World.drewN w7 _ = w7; have n0_ : Aside0 (w7.heap[gb116]? = some (.cells #[.int .i64 0, .int .u64 0] 88 (0, 0))) := ⟨by rw [← hq_]; exact (zB BK116.out)⟩; have n1_ : Aside0 (Below w.heap.size w w7) := ⟨by rw [← hq_]; exact (zH1 HB.out GE116.out)⟩; clear BK116 HB hq_; have BK116 := n0_; have HB := n1_; clear n0_ n1_))) | ((with_reducible refine gate_callee (f := 68) rfl ?_); refine goesL_ (some 25) rfl rfl Tryd.func68 (by kernel_rfl) rfl #[.int .u64 t117, .int .u64 t119] rfl zM ?_; (with_reducible refine (fix_Wide.calls t117 t119 t121 t122 _ A5.out).mono ?_); rintro e w' ⟨rfl, ⟨nd, rfl⟩⟩; refine ⟨_, rfl, ?_⟩; (try (rw [drewN_self w7]; generalize hq_ : World.drewN w7 _ = w7; have n0_ : Aside0 (w7.heap[gb116]? = some (.cells #[.int .i64 0, .int .u64 0] 88 (0, 0))) := ⟨by rw [← hq_]; exact (zB BK116.out)⟩; have n1_ : Aside0 (Below w.heap.size w w7) := ⟨by rw [← hq_]; exact (zH1 HB.out GE116.out)⟩; clear BK116 HB hq_; have BK116 := n0_; have HB := n1_; clear n0_ n1_)); have hcz8_0 : w7.cell? ⟨gb116, 0, none⟩ = some (.int .i64 0) := (blk_cell BK116.out 0).trans rfl; have hcz8_1 : w7.cell? ⟨gb116, 1, none⟩ = some (.int .u64 0) := (blk_cell BK116.out 1).trans rfl; have hfz8_0 := blk_frozen BK116.out 0; have hfz8_1 := blk_frozen BK116.out 1))
  refine bodyPost_ret (results_cell_row rfl _ _ gb116 88 #[.int .i64 (wrap64 (t121)), .int .u64 t122] (0, 0) _ rfl (by (with_reducible repeat (first | refine blk_drewN ?_ _ | refine blk_drew ?_ | refine blk_alloc ?_ _)); refine blk_put (cs := #[.int .i64 (wrap64 (t121)), .int .u64 0]) ?_ 1 _ rfl; (with_reducible repeat (first | refine blk_drewN ?_ _ | refine blk_drew ?_ | refine blk_alloc ?_ _)); refine blk_put (cs := #[.int .i64 0, .int .u64 0]) ?_ 0 _ rfl; (with_reducible repeat (first | refine blk_drewN ?_ _ | refine blk_drew ?_ | refine blk_alloc ?_ _)); exact BK116.out) Tryd.underlying88 rfl (by kernel_rfl)) rfl ?_; exact ⟨zE, zH1 HB.out GE116.out⟩
 ·
  rw [if_neg c6] at H; have c6b0 : (t118 == t120) = false := by simpa using c6
  (try (have c6b1 : decide (t118 = t120) = false := by simpa using c6)); (try (have c6b2 : (t118 == t120) = false := by simpa using c6)); (try (have c6b3 : ¬ (t118 = t120) := by simpa using c6)); clear c6; by_cases c9 : 0 ≤ (Go.bits .xor .u64 IntKind.u64.max t122)
  ·
   rw [if_pos c9] at H; have c9b0 := eq_true c9; have c9b1 : decide (0 ≤ (Go.bits .xor .u64 IntKind.u64.max t122)) = true := decide_eq_true c9; clear c9; simp only [Option.some.injEq, Prod.mk.injEq] at H; obtain ⟨rfl, rfl⟩ := H
   go_enter Tryd.func58, Tryd.ntmps58
   go_wp2_with (first | ((with_reducible refine gate_dst (N := 4) rfl ?_); refine box_event ?hg (N := 4) ?hd (cs := #[.int .i64 0, .int .u64 0]) (t := 88) ?hr ?_; (case hd => rfl); (case hg => rfl); (case hr => first | (go_simp; done) | (go_simp; rfl)); intro gb116 hg w10 hbox hb; have n0_ := Aside0.mk (below_step (zH HB.out) hb); have n1_ := Aside0.mk (hbox); have n2_ := Aside0.mk (zg hg (below_size (zH HB.out)) : w.heap.size ≤ gb116); have n3_ := Aside0.mk (zg hg (below_size (zH HB.out)) : w.heap.size ≤ gb116); clear HB; have HB := n0_; have BK116 := n1_; have GW116 := n2_; have GE116 := n3_; clear n0_ n1_ n2_ n3_; clear hb hbox hg) | ((with_reducible refine gate_callee (f := 67) rfl ?_); refine goesL_ (some 14) rfl rfl Tryd.func67 (by kernel_rfl) rfl #[.int .i64 a0] rfl zM ?_; (with_reducible refine (fix_size.calls a0 t117 t118 _ A3.out).mono ?_); rintro e w' ⟨rfl, ⟨nd, rfl⟩⟩; refine ⟨_, rfl, ?_⟩; (try (rw [drewN_self w10]; generalize hq_ : World.drewN w10 _ = w10; have n0_ : Aside0 (w10.heap[gb116]? = some (.cells #[.int .i64 0, .int .u64 0] 88 (0, 0))) := ⟨by rw [← hq_]; exact (zB BK116.out)⟩; have n1_ : Aside0 (Below w.heap.size w w10) := ⟨by rw [← hq_]; exact (zH1 HB.out GE116.out)⟩; clear BK116 HB hq_; have BK116 := n0_; have HB := n1_; clear n0_ n1_))) | ((with_reducible refine gate_callee (f := 67) rfl ?_); refine goesL_ (some 19) rfl rfl Tryd.func67 (by kernel_rfl) rfl #[.int .i64 a1] rfl zM ?_; (with_reducible refine (fix_size.calls a1 t119 t120 _ A4.out).mono ?_); rintro e w' ⟨rfl, ⟨nd, rfl⟩⟩; refine ⟨_, rfl, ?_⟩; (try (rw [drewN_self w10]; generalize hq_ : World.drewN w10 _ = w10; have n0_ : Aside0 (w10.heap[gb116]? = some (.cells #[.int .i64 0, .int .u64 0] 88 (0, 0))) := ⟨by rw [← hq_]; exact (zB BK116.out)⟩; have n1_ : Aside0 (Below w.heap.size w w10) := ⟨by rw [← hq_]; exact (zH1 HB.out GE116.out)⟩; clear BK116 HB hq_; have BK116 := n0_; have HB := n1_; clear n0_ n1_))) | ((with_reducible refine gate_callee (f := 68) rfl ?_); refine goesL_ (some 25) rfl rfl Tryd.func68 (by kernel_rfl) rfl #[.int .u64 t117, .int .u64 t119] rfl zM ?_; (with_reducible refine (fix_Wide.calls t117 t119 t121 t122 _ A5.out).mono ?_); rintro e w' ⟨rfl, ⟨nd, rfl⟩⟩; refine ⟨_, rfl, ?_⟩; (try (rw [drewN_self w10]; generalize hq_ : World.drewN w10 _ = w10; have n0_ : Aside0 (w10.heap[gb116]? = some (.cells #[.int .i64 0, .int .u64 0] 88 (0, 0))) := ⟨by rw [← hq_]; exact (zB BK116.out)⟩; have n1_ : Aside0 (Below w.heap.size w w10) := ⟨by rw [← hq_]; exact (zH1 HB.out GE116.out)⟩; clear BK116 HB hq_; have BK116 := n0_; have HB := n1_; clear n0_ n1_)); have haddg11 := bits_Add64_run (Go.bits .xor .u64 IntKind.u64.max t122) 1 0 (of_decide_eq_true zA) (by omega) (by omega) (by omega); have hcz12_0 : w10.cell? ⟨gb116, 0, none⟩ = some (.int .i64 0) := (blk_cell BK116.out 0).trans rfl; have hcz12_1 : w10.cell? ⟨gb116, 1, none⟩ = some (.int .u64 0) := (blk_cell BK116.out 1).trans rfl; have hfz12_0 := blk_frozen BK116.out 0; have hfz12_1 := blk_frozen BK116.out 1))
   refine bodyPost_ret (results_cell_row rfl _ _ gb116 88 #[.int .i64 (wrap64 (IntKind.u64.wrap ((Go.bits .xor .u64 IntKind.u64.max t121) + (((Go.bits .xor .u64 IntKind.u64.max t122) + 1) / 18446744073709551616)))), .int .u64 (((Go.bits .xor .u64 IntKind.u64.max t122) + 1) % 18446744073709551616)] (0, 0) _ rfl (by (with_reducible repeat (first | refine blk_drewN ?_ _ | refine blk_drew ?_ | refine blk_alloc ?_ _)); refine blk_put (cs := #[.int .i64 (wrap64 (IntKind.u64.wrap ((Go.bits .xor .u64 IntKind.u64.max t121) + (((Go.bits .xor .u64 IntKind.u64.max t122) + 1) / 18446744073709551616)))), .int .u64 0]) ?_ 1 _ rfl; (with_reducible repeat (first | refine blk_drewN ?_ _ | refine blk_drew ?_ | refine blk_alloc ?_ _)); refine blk_put (cs := #[.int .i64 0, .int .u64 0]) ?_ 0 _ rfl; (with_reducible repeat (first | refine blk_drewN ?_ _ | refine blk_drew ?_ | refine blk_alloc ?_ _)); exact BK116.out) Tryd.underlying88 rfl (by kernel_rfl)) rfl ?_; exact ⟨zE, zH1 HB.out GE116.out⟩
  ·
   rw [if_neg c9] at H; exact absurd H (by simp)

/-! ### cmp_Or_int: function 59 -/
def cmp_Or_int.l0 : Nat → Int → List Int → Int → Int → Option (Int)
  | 0, _, _, _, _ => none
  | k + 1, x3, x6, x7, x8 => if x8 < x7 then (if 0 ≤ x8 then (if x8 < (x6.length : Int) then (if (rd x6 x8) = x3 then (cmp_Or_int.l0 k x3 x6 x7 (wrap64 (x8 + 1))) else (some (rd x6 x8))) else (none)) else (none)) else (some x3)
def cmp_Or_int.f (k : Nat) (l0 : List Int) : Option (Int) := cmp_Or_int.l0 k 0 l0 (l0.length : Int) 0
theorem cmp_Or_int.mono_l : ∀ k, (∀ y0 y1 y2 y3, LeO (cmp_Or_int.l0 k y0 y1 y2 y3) (cmp_Or_int.l0 (k + 1) y0 y1 y2 y3))
  | 0 => fun _ _ _ _ r h => by simp [cmp_Or_int.l0] at h
  | k + 1 => by
    have ih0 := cmp_Or_int.mono_l k
    · intro y0 y1 y2 y3
      unfold cmp_Or_int.l0
      repeat' first
      | (with_reducible exact ih0 _ _ _ _)
      | (with_reducible exact LeO.refl _)
      | (with_reducible exact LeO.none _)
      | (with_reducible refine LeO.ite ?_ ?_)
      | (with_reducible refine LeO.bind ?_ (fun _ => ?_))
      | exact ih0 _ _ _ _
      | exact LeO.none _
      | refine LeO.ite ?_ ?_
      | refine LeO.bind ?_ (fun _ => ?_)
theorem cmp_Or_int.mono : ∀ a0 k, LeO (cmp_Or_int.f k a0) (cmp_Or_int.f (k + 1) a0) := by
  intro a0 k; have ih0 := cmp_Or_int.mono_l k; unfold cmp_Or_int.f
  repeat' first
      | (with_reducible exact ih0 _ _ _ _)
      | (with_reducible exact LeO.refl _)
      | (with_reducible exact LeO.none _)
      | (with_reducible refine LeO.ite ?_ ?_)
      | (with_reducible refine LeO.bind ?_ (fun _ => ?_))
      | exact ih0 _ _ _ _
      | exact LeO.none _
      | refine LeO.ite ?_ ?_
      | refine LeO.bind ?_ (fun _ => ?_)
set_option maxHeartbeats 8000000 in
set_option maxRecDepth 100000 in
theorem cmp_Or_int.calls [Inhabited (Int → Addr)] (k : Nat) (A0 : Option Addr) (c0 : Nat) (l0 : List Int) (r : Int) (w : World) (hr0 : Kd.C (Kd.int .i64) w A0 l0.length l0) (hc0 : l0.length ≤ c0) (h : cmp_Or_int.f k l0 = some r) :
    Calls Tryd.prog 59 #[.slice A0 l0.length c0] w fun e w' => e = .returned (.int .i64 r) ∧ Drawn0 w w' := by
  have HR0 := Aside0.mk hr0; have HC0 := Aside0.mk hc0; clear hr0 hc0; have H : (cmp_Or_int.l0 k 0 l0 (l0.length : Int) 0) = some r := h; clear h; have H' := Aside0.mk H; clear H
  go_enter Tryd.func59, Tryd.ntmps59
  go_wp2
  go_loopg [8] k (fun kq v8 w' => ∃ (x8_1 : Int), v8 = .int .i64 x8_1 ∧ Aside0 (cmp_Or_int.l0 kq 0 l0 (l0.length : Int) x8_1 = some r) ∧ Aside0 (kq ≤ k) ∧ Drawn0 w w')
  case atStart => exact ⟨(0), zS, H', ⟨Nat.le_refl _⟩, zD⟩
  case round =>
    clear H'; obtain ⟨x8_1, rfl, HA, HK1, ⟨m1, rfl⟩⟩ := hrel
    cases gk with
    | zero => exact absurd HA.out (by simp [cmp_Or_int.l0])
    | succ k1 =>
      have H := HA.out; clear HA; simp only [cmp_Or_int.l0] at H; by_cases c2 : x8_1 < (l0.length : Int)
      · rw [if_pos c2] at H
        have c2b0 : decide (x8_1 < (l0.length : Int)) = true := decide_eq_true c2; clear c2; by_cases c3 : 0 ≤ x8_1
        · rw [if_pos c3] at H
          have c3b0 : decide (0 ≤ x8_1) = true := decide_eq_true c3; clear c3; by_cases c4 : x8_1 < (l0.length : Int)
          · rw [if_pos c4] at H
            have c4b0 : decide (x8_1 < (l0.length : Int)) = true := decide_eq_true c4; clear c4; by_cases c5 : (rd l0 x8_1) = 0
            · rw [if_pos c5] at H
              have c5b0 : ((rd l0 x8_1) == 0) = true := beq_iff_eq.mpr c5; have c5b1 : ((rd l0 x8_1) != 0) = false := bne_eq_false_iff_eq.mpr c5; clear c5; have H' := Aside0.mk H; clear H; have p123 : 0 ≤ (x8_1 : Int) := of_decide_eq_true zA; have q123 : x8_1 < (l0.length : Int) := of_decide_eq_true zA; obtain ⟨ad123, e123, hx123_0⟩ := Kd.at_int HR0.out x8_1 p123 q123
              cases e123
              replace p123 := eq_true p123; replace q123 := eq_true q123
              go_wp2
              go_roundg k1
              case measure => have := HK1.out; omega
              case rel => exact ⟨(wrap64 (x8_1 + 1)), zS, H', ⟨by have := HK1.out; omega⟩, zD⟩
            · rw [if_neg c5] at H
              have c5b0 : ((rd l0 x8_1) == 0) = false := beq_eq_false_iff_ne.mpr c5; have c5b1 : ((rd l0 x8_1) != 0) = true := bne_iff_ne.mpr c5; obtain rfl := Option.some.inj H; have p123 : 0 ≤ (x8_1 : Int) := of_decide_eq_true zA; have q123 : x8_1 < (l0.length : Int) := of_decide_eq_true zA; obtain ⟨ad123, e123, hx123_0⟩ := Kd.at_int HR0.out x8_1 p123 q123
              cases e123
              replace p123 := eq_true p123; replace q123 := eq_true q123
              go_wp2
              go_ret
              exact ⟨zF, zD⟩
          · rw [if_neg c4] at H
            exact absurd H (by simp)
        · rw [if_neg c3] at H
          exact absurd H (by simp)
      · rw [if_neg c2] at H
        have c2b0 : decide (x8_1 < (l0.length : Int)) = false := decide_eq_false c2; clear c2; obtain rfl := Option.some.inj H
        go_wp2
        go_ret
        exact ⟨zF, zD⟩

/-! ### cmp_isNaN_int64: function 70 -/
def cmp_isNaN_int64.f (a0 : Int) : Option (Bool) := some (a0 != a0)
set_option maxHeartbeats 8000000 in
set_option maxRecDepth 100000 in
theorem cmp_isNaN_int64.calls [Inhabited (Int → Addr)] (a0 : Int) (r : Bool) (w : World) (h : cmp_isNaN_int64.f a0 = some r) :
    Calls Tryd.prog 70 #[.int .i64 a0] w fun e w' => e = .returned (.bool r) ∧ Drawn0 w w' := by
  have H : (some (a0 != a0)) = some r := h; clear h; obtain rfl := Option.some.inj H
  go_enter Tryd.func70, Tryd.ntmps70
  go_wp2
  go_ret
  exact ⟨zF, zD⟩

end Go.Proofs.YtlalofmilhakjaaDoor.ELotsSay
