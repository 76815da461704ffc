/- The functions that the law comes to, as plain functions, and for each a proof that the Go code comes to just these answers. Written by a program of this claim. Conditions: each theorem bears its own. -/
import Derived.Test.YtlalofmilhakjaaDoorELotsSayx0
import Derived.Test.YtlalofmilhakjaaDoorELotsSayx8
import Derived.Test.YtlalofmilhakjaaDoorELotsSayx9
import Derived.Test.YtlalofmilhakjaaDoorELotsSayx12
namespace Go.Proofs.YtlalofmilhakjaaDoor.ELotsSay
open Go.RowKit Go.Proofs.YtlalofmilhakjaaDoorW.PrintWords Go.Proofs.YtlalofmilhakjaaDoorW.PrintLast Go.Proofs.YtlalofmilhakjaaDoorW.PrintMore Go.Proofs.YtlalofmilhakjaaDoorW.PrintOpen
attribute [local go_sem] max2_int min2_int max_two min_two max_three min_three max_four min_four   -- for this text's walks alone
set_option linter.unusedVariables false
set_option linter.unusedSimpArgs false

/-! ### pledgeref18_Greedy: function 25 -/
mutual
def pledgeref18_Greedy.l0 : Nat → List Int → List Int → Int → Int → List (S25) → List Int → Int → Option (List Int × Bool)
 | 0, _, _, _, _, _, _, _ => none
 | k + 1, x4, x5, x6, x7, x323000, x323001, x323002 => if x7 < (x5.length : Int) then (if 0 ≤ x7 then (pledgeref18_Greedy.l1 k x4 x5 x6 x7 (rd x5 x7) x323000 x323001 x323002) else (none)) else (if x6 < x323002 then (some (([] : List Int), false)) else (some (x4, true)))
def pledgeref18_Greedy.l1 : Nat → List Int → List Int → Int → Int → Int → List (S25) → List Int → Int → Option (List Int × Bool)
 | 0, _, _, _, _, _, _, _, _ => none
 | k + 1, x4, x5, x6, x7, x8, x323000, x323001, x323002 => if x6 < x323002 then (if 0 ≤ x8 then (if x8 < (x4.length : Int) then (if x8 < (x323000.length : Int) then (pledgeref18_Greedy.j2 k x4 x5 x6 x7 x8 (decide ((rd x4 x8) < ((rd_T25 x323000 x8).f0))) x323000 x323001 x323002) else (none)) else (none)) else (none)) else (pledgeref18_Greedy.j2 k x4 x5 x6 x7 x8 false x323000 x323001 x323002)
def pledgeref18_Greedy.j2 : Nat → List Int → List Int → Int → Int → Int → Bool → List (S25) → List Int → Int → Option (List Int × Bool)
 | 0, _, _, _, _, _, _, _, _, _ => none
 | k + 1, x4, x5, x6, x7, x8, x47, x323000, x323001, x323002 => if x47 = true then (if 0 ≤ x8 then (if x8 < (x4.length : Int) then ((some (x4.set (x8 : Int).toNat (wrap64 ((rd x4 x8) + 1)) : List Int)).bind fun y334 => ((pledgeref18_Worth.f k x323000 x323001 x323002 y334).bind fun bt335 => (if bt335.1 ≤ x6 then (pledgeref18_Greedy.l0 k (y334.set (x8 : Int).toNat (wrap64 ((rd y334 x8) - 1))) x5 x6 (wrap64 (x7 + 1)) x323000 x323001 x323002) else (pledgeref18_Greedy.l1 k y334 x5 bt335.1 x7 x8 x323000 x323001 x323002)))) else (none)) else (none)) else (pledgeref18_Greedy.l0 k x4 x5 x6 (wrap64 (x7 + 1)) x323000 x323001 x323002)
end
def pledgeref18_Greedy.f (k : Nat) (l0_0 : List (S25)) (l0_1 : List Int) (a0_2 : Int) : Option (List Int × Bool) := (pledgeref18_Valid.f k l0_0 l0_1 a0_2).bind fun t323 => (if t323 = 0 then (if 0 ≤ (l0_0.length : Int) then (if ((l0_0.length : Int) : Int).toNat ≤ 35184372088832 then ((pledgeref18_Order.f k l0_0).bind fun t327 => (pledgeref18_Greedy.l0 k (List.replicate ((l0_0.length : Int) : Int).toNat 0) t327 0 0 l0_0 l0_1 a0_2)) else (none)) else (none)) else (some (([] : List Int), false)))
theorem pledgeref18_Greedy.mono_l : ∀ k, (∀ y0 y1 y2 y3 y4 y5 y6, LeO (pledgeref18_Greedy.l0 k y0 y1 y2 y3 y4 y5 y6) (pledgeref18_Greedy.l0 (k + 1) y0 y1 y2 y3 y4 y5 y6)) ∧ (∀ y0 y1 y2 y3 y4 y5 y6 y7, LeO (pledgeref18_Greedy.l1 k y0 y1 y2 y3 y4 y5 y6 y7) (pledgeref18_Greedy.l1 (k + 1) y0 y1 y2 y3 y4 y5 y6 y7)) ∧ (∀ y0 y1 y2 y3 y4 y5 y6 y7 y8, LeO (pledgeref18_Greedy.j2 k y0 y1 y2 y3 y4 y5 y6 y7 y8) (pledgeref18_Greedy.j2 (k + 1) y0 y1 y2 y3 y4 y5 y6 y7 y8))
 | 0 => ⟨fun _ _ _ _ _ _ _ r h => by simp [pledgeref18_Greedy.l0] at h, fun _ _ _ _ _ _ _ _ r h => by simp [pledgeref18_Greedy.l1] at h, fun _ _ _ _ _ _ _ _ _ r h => by simp [pledgeref18_Greedy.j2] at h⟩
 | k + 1 => by
  obtain ⟨ih0, ih1, ih2⟩ := pledgeref18_Greedy.mono_l k; refine ⟨?_, ?_, ?_⟩
  ·
   intro y0 y1 y2 y3 y4 y5 y6; unfold pledgeref18_Greedy.l0
   repeat' first
   | (with_reducible exact ih0 _ _ _ _ _ _ _)
   | (with_reducible exact ih1 _ _ _ _ _ _ _ _)
   | (with_reducible exact ih2 _ _ _ _ _ _ _ _ _)
   | (with_reducible exact pledgeref18_Order.mono _ _)
   | (with_reducible exact pledgeref18_Valid.mono _ _ _ _)
   | (with_reducible exact pledgeref18_Worth.mono _ _ _ _ _)
   | (with_reducible exact LeO.refl _)
   | (with_reducible exact LeO.none _)
   | (with_reducible refine LeO.ite ?_ ?_)
   | (with_reducible refine LeO.bind ?_ (fun _ => ?_))
   | exact ih0 _ _ _ _ _ _ _
   | exact ih1 _ _ _ _ _ _ _ _
   | exact ih2 _ _ _ _ _ _ _ _ _
   | exact pledgeref18_Order.mono _ _
   | exact pledgeref18_Valid.mono _ _ _ _
   | exact pledgeref18_Worth.mono _ _ _ _ _
   | exact LeO.none _
   | refine LeO.ite ?_ ?_
   | refine LeO.bind ?_ (fun _ => ?_)
  ·
   intro y0 y1 y2 y3 y4 y5 y6 y7; unfold pledgeref18_Greedy.l1
   repeat' first
   | (with_reducible exact ih0 _ _ _ _ _ _ _)
   | (with_reducible exact ih1 _ _ _ _ _ _ _ _)
   | (with_reducible exact ih2 _ _ _ _ _ _ _ _ _)
   | (with_reducible exact pledgeref18_Order.mono _ _)
   | (with_reducible exact pledgeref18_Valid.mono _ _ _ _)
   | (with_reducible exact pledgeref18_Worth.mono _ _ _ _ _)
   | (with_reducible exact LeO.refl _)
   | (with_reducible exact LeO.none _)
   | (with_reducible refine LeO.ite ?_ ?_)
   | (with_reducible refine LeO.bind ?_ (fun _ => ?_))
   | exact ih0 _ _ _ _ _ _ _
   | exact ih1 _ _ _ _ _ _ _ _
   | exact ih2 _ _ _ _ _ _ _ _ _
   | exact pledgeref18_Order.mono _ _
   | exact pledgeref18_Valid.mono _ _ _ _
   | exact pledgeref18_Worth.mono _ _ _ _ _
   | exact LeO.none _
   | refine LeO.ite ?_ ?_
   | refine LeO.bind ?_ (fun _ => ?_)
  ·
   intro y0 y1 y2 y3 y4 y5 y6 y7 y8; unfold pledgeref18_Greedy.j2
   repeat' first
   | (with_reducible exact ih0 _ _ _ _ _ _ _)
   | (with_reducible exact ih1 _ _ _ _ _ _ _ _)
   | (with_reducible exact ih2 _ _ _ _ _ _ _ _ _)
   | (with_reducible exact pledgeref18_Order.mono _ _)
   | (with_reducible exact pledgeref18_Valid.mono _ _ _ _)
   | (with_reducible exact pledgeref18_Worth.mono _ _ _ _ _)
   | (with_reducible exact LeO.refl _)
   | (with_reducible exact LeO.none _)
   | (with_reducible refine LeO.ite ?_ ?_)
   | (with_reducible refine LeO.bind ?_ (fun _ => ?_))
   | exact ih0 _ _ _ _ _ _ _
   | exact ih1 _ _ _ _ _ _ _ _
   | exact ih2 _ _ _ _ _ _ _ _ _
   | exact pledgeref18_Order.mono _ _
   | exact pledgeref18_Valid.mono _ _ _ _
   | exact pledgeref18_Worth.mono _ _ _ _ _
   | exact LeO.none _
   | refine LeO.ite ?_ ?_
   | refine LeO.bind ?_ (fun _ => ?_)
theorem pledgeref18_Greedy.mono : ∀ a0 a1 a2 k, LeO (pledgeref18_Greedy.f k a0 a1 a2) (pledgeref18_Greedy.f (k + 1) a0 a1 a2) := by
 intro a0 a1 a2 k; obtain ⟨ih0, ih1, ih2⟩ := pledgeref18_Greedy.mono_l k; unfold pledgeref18_Greedy.f
 repeat' first
   | (with_reducible exact ih0 _ _ _ _ _ _ _)
   | (with_reducible exact ih1 _ _ _ _ _ _ _ _)
   | (with_reducible exact ih2 _ _ _ _ _ _ _ _ _)
   | (with_reducible exact pledgeref18_Order.mono _ _)
   | (with_reducible exact pledgeref18_Valid.mono _ _ _ _)
   | (with_reducible exact pledgeref18_Worth.mono _ _ _ _ _)
   | (with_reducible exact LeO.refl _)
   | (with_reducible exact LeO.none _)
   | (with_reducible refine LeO.ite ?_ ?_)
   | (with_reducible refine LeO.bind ?_ (fun _ => ?_))
   | exact ih0 _ _ _ _ _ _ _
   | exact ih1 _ _ _ _ _ _ _ _
   | exact ih2 _ _ _ _ _ _ _ _ _
   | exact pledgeref18_Order.mono _ _
   | exact pledgeref18_Valid.mono _ _ _ _
   | exact pledgeref18_Worth.mono _ _ _ _ _
   | exact LeO.none _
   | refine LeO.ite ?_ ?_
   | refine LeO.bind ?_ (fun _ => ?_)
set_option maxHeartbeats 8000000 in
set_option maxRecDepth 100000 in
theorem pledgeref18_Greedy.calls [Inhabited (Int → Addr)] (k : Nat) (A0_0 : Option Addr) (c0_0 : Nat) (l0_0 : List (S25)) (A0_1 : Option Addr) (c0_1 : Nat) (l0_1 : List Int) (a0_2 : Int) (r1 : List Int) (r2 : Bool) (w : World) (hr0_0 : Kd.C k25 w A0_0 l0_0.length l0_0) (hc0_0 : l0_0.length ≤ c0_0) (hr0_1 : Kd.C (Kd.int .i64) w A0_1 l0_1.length l0_1) (hc0_1 : l0_1.length ≤ c0_1) (h : pledgeref18_Greedy.f k l0_0 l0_1 a0_2 = some (r1, r2)) :
  Calls Tryd.prog 25 #[.agg #[.slice A0_0 l0_0.length c0_0, .slice A0_1 l0_1.length c0_1, .int .i64 a0_2]] w fun e w' => ∃ v0_ : Value, e = .returned (.tuple #[v0_, .bool r2]) ∧ Kd.R (Kd.int .i64) 3 w' w.heap.size (fun _ => True) v0_ r1 ∧ Below w.heap.size w w' := by
 have hu45 := Tryd.underlying45; have HR0_0 := Aside0.mk hr0_0; have HC0_0 := Aside0.mk hc0_0; clear hr0_0 hc0_0; have HR0_1 := Aside0.mk hr0_1; have HC0_1 := Aside0.mk hc0_1; clear hr0_1 hc0_1; have HB := Aside0.mk (Below.refl w.heap.size w); have H : ((pledgeref18_Valid.f k l0_0 l0_1 a0_2).bind fun t323 => (if t323 = 0 then (if 0 ≤ (l0_0.length : Int) then (if ((l0_0.length : Int) : Int).toNat ≤ 35184372088832 then ((pledgeref18_Order.f k l0_0).bind fun t327 => (pledgeref18_Greedy.l0 k (List.replicate ((l0_0.length : Int) : Int).toNat 0) t327 0 0 l0_0 l0_1 a0_2)) else (none)) else (none)) else (some (([] : List Int), false)))) = some (r1, r2) := h; clear h; replace H := Option.bind_eq_some_iff.mp H; obtain ⟨t323, A20, H⟩ := H; replace H : (if t323 = 0 then (if 0 ≤ (l0_0.length : Int) then (if ((l0_0.length : Int) : Int).toNat ≤ 35184372088832 then ((pledgeref18_Order.f k l0_0).bind fun t327 => (pledgeref18_Greedy.l0 k (List.replicate ((l0_0.length : Int) : Int).toNat 0) t327 0 0 l0_0 l0_1 a0_2)) else (none)) else (none)) else (some (([] : List Int), false))) = some (r1, r2) := H; have A2 := Aside0.mk A20; clear A20; by_cases c3 : t323 = 0
 ·
  rw [if_pos c3] at H; have c3b0 : (t323 == 0) = true := beq_iff_eq.mpr c3; have c3b1 : (t323 != 0) = false := bne_eq_false_iff_eq.mpr c3; clear c3; by_cases c4 : 0 ≤ (l0_0.length : Int)
  ·
   rw [if_pos c4] at H; have c4b0 := eq_true c4; have c4b1 : decide (0 ≤ (l0_0.length : Int)) = true := decide_eq_true c4; clear c4; by_cases c5 : ((l0_0.length : Int) : Int).toNat ≤ 35184372088832
   ·
    rw [if_pos c5] at H; have c5b0 := eq_true c5; have c5b1 : decide (((l0_0.length : Int) : Int).toNat ≤ 35184372088832) = true := decide_eq_true c5; clear c5; obtain ⟨y324, hy324⟩ : ∃ y_ : List Int, y_ = (List.replicate ((l0_0.length : Int) : Int).toNat 0) := ⟨_, rfl⟩; replace H : ((pledgeref18_Order.f k l0_0).bind fun t327 => (pledgeref18_Greedy.l0 k y324 t327 0 0 l0_0 l0_1 a0_2)) = some (r1, r2) := by first | (rw [hy324]; with_reducible exact H) | (have H2_ := (Option.bind_some _ _).symm.trans H; rw [hy324]; with_reducible exact H2_) | (have H2_ := (Option.bind_some _ _).symm.trans H; with_reducible exact H2_) | with_reducible exact H | (rw [hy324]; exact H) | exact H
    have Ny324 := Aside0.mk hy324; clear hy324; replace H := Option.bind_eq_some_iff.mp H; obtain ⟨t327, A60, H⟩ := H; replace H : (pledgeref18_Greedy.l0 k y324 t327 0 0 l0_0 l0_1 a0_2) = some (r1, r2) := H; have A6 := Aside0.mk A60; clear A60; have H' := Aside0.mk H; clear H
    go_enter Tryd.func25, Tryd.ntmps25
    go_wp2_with (first | ((with_reducible refine gate_dst (N := 1) rfl ?_); refine box_event ?hg (N := 1) ?hd (cs := #[.slice A0_0 l0_0.length c0_0, .slice A0_1 l0_1.length c0_1, .int .i64 a0_2]) (t := 45) ?hr ?_; (case hd => rfl); (case hg => rfl); (case hr => first | (go_simp; done) | (go_simp; rfl)); intro gb322 hg w7 hbox hb; have n0_ := Aside0.mk (below_step (zH HB.out) hb); have n1_ := Aside0.mk (hbox); have n2_ := Aside0.mk (zg hg (below_size (zH HB.out)) : w.heap.size ≤ gb322); have n3_ := Aside0.mk (zg hg (below_size (zH HB.out)) : w.heap.size ≤ gb322); clear HB; have HB := n0_; have BK322 := n1_; have GW322 := n2_; have GE322 := n3_; clear n0_ n1_ n2_ n3_; clear hb hbox hg; have hcz8_0 : w7.cell? ⟨gb322, 0, none⟩ = some (.slice A0_0 l0_0.length c0_0) := (blk_cell BK322.out 0).trans rfl; have hcz8_1 : w7.cell? ⟨gb322, 1, none⟩ = some (.slice A0_1 l0_1.length c0_1) := (blk_cell BK322.out 1).trans rfl; have hcz8_2 : w7.cell? ⟨gb322, 2, none⟩ = some (.int .i64 a0_2) := (blk_cell BK322.out 2).trans rfl; have hfz8_0 := blk_frozen BK322.out 0; have hfz8_1 := blk_frozen BK322.out 1; have hfz8_2 := blk_frozen BK322.out 2) | (go_at_call 19; (with_reducible refine (pledgeref18_Valid.calls k _ _ l0_0 _ _ l0_1 a0_2 t323 _ ?side1 ?side2 ?side3 ?side4 A2.out).mono ?_); (case side1 => exact zC HR0_0.out HB.out); (case side2 => exact HC0_0.out); (case side3 => exact zC HR0_1.out HB.out); (case side4 => exact HC0_1.out); rintro e w9 ⟨rfl, hb⟩; have n0_ := zBB BK322 hb; have n1_ := Aside0.mk (below_step (zH1 HB.out GE322.out) hb); clear BK322; clear HB; have BK322 := n0_; have HB := n1_; clear n0_ n1_; (try clear hb); (try clear hb2); (try clear hk); (try clear hi); have hcz10_0 : w9.cell? ⟨gb322, 0, none⟩ = some (.slice A0_0 l0_0.length c0_0) := (blk_cell BK322.out 0).trans rfl; have hcz10_1 : w9.cell? ⟨gb322, 1, none⟩ = some (.slice A0_1 l0_1.length c0_1) := (blk_cell BK322.out 1).trans rfl; have hcz10_2 : w9.cell? ⟨gb322, 2, none⟩ = some (.int .i64 a0_2) := (blk_cell BK322.out 2).trans rfl; have hfz10_0 := blk_frozen BK322.out 0; have hfz10_1 := blk_frozen BK322.out 1; have hfz10_2 := blk_frozen BK322.out 2) | ((with_reducible refine gate_dst (N := 17) rfl ?_); refine Kd.R_make (Kd.int .i64) _ 3 rfl (N := 17) rfl 30 _ _ rfl (l0_0.length : Int) rfl rfl Tryd.underlying30 (.int .i64 0) 8 info3 rfl (by decide) (by omega) 0 (ok := fun _ => True) (okp := fun _ => True) rfl (fun _ hk => hk) trivial (of_decide_eq_true zA) (Nat.le_trans (Nat.mul_le_mul_right _ (of_decide_eq_true zA : (l0_0.length : Int).toNat ≤ 35184372088832)) (by omega)) (Below.refl _ _) (Nat.le_refl _) ?_; intro v325 w11 ho12 hb hg_ hnew_; clear hg_ hnew_; (first | rw [← Ny324.out] at ho12 | (simp only [Int.reduceToNat] at ho12; rw [← Ny324.out] at ho12)); have n0_ := Aside0.mk (Kd.R_lower ho12 (below_size (zH1 HB.out GE322.out))); have n1_ := zBB BK322 hb; have n2_ := Aside0.mk (below_step (zH1 HB.out GE322.out) hb); clear BK322; clear HB; have HO326 := n0_; have BK322 := n1_; have HB := n2_; clear n0_ n1_ n2_; clear hb ho12; have hcz13_0 : w11.cell? ⟨gb322, 0, none⟩ = some (.slice A0_0 l0_0.length c0_0) := (blk_cell BK322.out 0).trans rfl; have hcz13_1 : w11.cell? ⟨gb322, 1, none⟩ = some (.slice A0_1 l0_1.length c0_1) := (blk_cell BK322.out 1).trans rfl; have hcz13_2 : w11.cell? ⟨gb322, 2, none⟩ = some (.int .i64 a0_2) := (blk_cell BK322.out 2).trans rfl; have hfz13_0 := blk_frozen BK322.out 0; have hfz13_1 := blk_frozen BK322.out 1; have hfz13_2 := blk_frozen BK322.out 2) | (go_at_call 41; (with_reducible refine (pledgeref18_Order.calls k _ _ l0_0 t327 _ ?side1 ?side2 A6.out).mono ?_); (case side1 => exact zC HR0_0.out HB.out); (case side2 => exact HC0_0.out); rintro e w14 ⟨v328, rfl, ho0, hb⟩; have n0_ := Aside0.mk (Kd.R_elder' (zR HO326.out) (Kd.R_base ho0) hb); have n1_ := Aside0.mk (Kd.R_lower (Kd.R_new' ho0 (Kd.R_lt (zR HO326.out))) (below_size (zH1 HB.out GE322.out))); have n2_ := zBB BK322 hb; have n3_ := Aside0.mk (below_step (zH1 HB.out GE322.out) hb); clear HO326; clear BK322; clear HB; have HO326 := n0_; have HO329 := n1_; have BK322 := n2_; have HB := n3_; clear n0_ n1_ n2_ n3_; (try clear hb); (try clear hb2); (try clear hk); (try clear hi); (try clear ho0)))
    repeat (go_quiet (first | ((with_reducible refine gate_dst (N := 1) rfl ?_); refine box_event ?hg (N := 1) ?hd (cs := #[.slice A0_0 l0_0.length c0_0, .slice A0_1 l0_1.length c0_1, .int .i64 a0_2]) (t := 45) ?hr ?_; (case hd => rfl); (case hg => rfl); (case hr => first | (go_simp; done) | (go_simp; rfl)); intro gb322 hg w7 hbox hb; have n0_ := Aside0.mk (below_step (zH HB.out) hb); have n1_ := Aside0.mk (hbox); have n2_ := Aside0.mk (zg hg (below_size (zH HB.out)) : w.heap.size ≤ gb322); have n3_ := Aside0.mk (zg hg (below_size (zH HB.out)) : w.heap.size ≤ gb322); clear HB; have HB := n0_; have BK322 := n1_; have GW322 := n2_; have GE322 := n3_; clear n0_ n1_ n2_ n3_; clear hb hbox hg; have hcz8_0 : w7.cell? ⟨gb322, 0, none⟩ = some (.slice A0_0 l0_0.length c0_0) := (blk_cell BK322.out 0).trans rfl; have hcz8_1 : w7.cell? ⟨gb322, 1, none⟩ = some (.slice A0_1 l0_1.length c0_1) := (blk_cell BK322.out 1).trans rfl; have hcz8_2 : w7.cell? ⟨gb322, 2, none⟩ = some (.int .i64 a0_2) := (blk_cell BK322.out 2).trans rfl; have hfz8_0 := blk_frozen BK322.out 0; have hfz8_1 := blk_frozen BK322.out 1; have hfz8_2 := blk_frozen BK322.out 2) | (go_at_call 19; (try simp only [i64_w, i32_w]); (with_reducible refine (pledgeref18_Valid.calls k _ _ l0_0 _ _ l0_1 a0_2 t323 _ ?side1 ?side2 ?side3 ?side4 A2.out).mono ?_); (case side1 => exact zC HR0_0.out HB.out); (case side2 => exact HC0_0.out); (case side3 => exact zC HR0_1.out HB.out); (case side4 => exact HC0_1.out); rintro e w9 ⟨rfl, hb⟩; have n0_ := zBB BK322 hb; have n1_ := Aside0.mk (below_step (zH1 HB.out GE322.out) hb); clear BK322; clear HB; have BK322 := n0_; have HB := n1_; clear n0_ n1_; (try clear hb); (try clear hb2); (try clear hk); (try clear hi); have hcz10_0 : w9.cell? ⟨gb322, 0, none⟩ = some (.slice A0_0 l0_0.length c0_0) := (blk_cell BK322.out 0).trans rfl; have hcz10_1 : w9.cell? ⟨gb322, 1, none⟩ = some (.slice A0_1 l0_1.length c0_1) := (blk_cell BK322.out 1).trans rfl; have hcz10_2 : w9.cell? ⟨gb322, 2, none⟩ = some (.int .i64 a0_2) := (blk_cell BK322.out 2).trans rfl; have hfz10_0 := blk_frozen BK322.out 0; have hfz10_1 := blk_frozen BK322.out 1; have hfz10_2 := blk_frozen BK322.out 2) | ((with_reducible refine gate_dst (N := 17) rfl ?_); refine Kd.R_make (Kd.int .i64) _ 3 rfl (N := 17) rfl 30 _ _ rfl (l0_0.length : Int) rfl rfl Tryd.underlying30 (.int .i64 0) 8 info3 rfl (by decide) (by omega) 0 (ok := fun _ => True) (okp := fun _ => True) rfl (fun _ hk => hk) trivial (of_decide_eq_true zA) (Nat.le_trans (Nat.mul_le_mul_right _ (of_decide_eq_true zA : (l0_0.length : Int).toNat ≤ 35184372088832)) (by omega)) (Below.refl _ _) (Nat.le_refl _) ?_; intro v325 w11 ho12 hb hg_ hnew_; clear hg_ hnew_; (first | rw [← Ny324.out] at ho12 | (simp only [Int.reduceToNat] at ho12; rw [← Ny324.out] at ho12)); have n0_ := Aside0.mk (Kd.R_lower ho12 (below_size (zH1 HB.out GE322.out))); have n1_ := zBB BK322 hb; have n2_ := Aside0.mk (below_step (zH1 HB.out GE322.out) hb); clear BK322; clear HB; have HO326 := n0_; have BK322 := n1_; have HB := n2_; clear n0_ n1_ n2_; clear hb ho12; have hcz13_0 : w11.cell? ⟨gb322, 0, none⟩ = some (.slice A0_0 l0_0.length c0_0) := (blk_cell BK322.out 0).trans rfl; have hcz13_1 : w11.cell? ⟨gb322, 1, none⟩ = some (.slice A0_1 l0_1.length c0_1) := (blk_cell BK322.out 1).trans rfl; have hcz13_2 : w11.cell? ⟨gb322, 2, none⟩ = some (.int .i64 a0_2) := (blk_cell BK322.out 2).trans rfl; have hfz13_0 := blk_frozen BK322.out 0; have hfz13_1 := blk_frozen BK322.out 1; have hfz13_2 := blk_frozen BK322.out 2) | (go_at_call 41; (try simp only [i64_w, i32_w]); (with_reducible refine (pledgeref18_Order.calls k _ _ l0_0 t327 _ ?side1 ?side2 A6.out).mono ?_); (case side1 => exact zC HR0_0.out HB.out); (case side2 => exact HC0_0.out); rintro e w14 ⟨v328, rfl, ho0, hb⟩; have n0_ := Aside0.mk (Kd.R_elder' (zR HO326.out) (Kd.R_base ho0) hb); have n1_ := Aside0.mk (Kd.R_lower (Kd.R_new' ho0 (Kd.R_lt (zR HO326.out))) (below_size (zH1 HB.out GE322.out))); have n2_ := zBB BK322 hb; have n3_ := Aside0.mk (below_step (zH1 HB.out GE322.out) hb); clear HO326; clear BK322; clear HB; have HO326 := n0_; have HO329 := n1_; have BK322 := n2_; have HB := n3_; clear n0_ n1_ n2_ n3_; (try clear hb); (try clear hb2); (try clear hk); (try clear hi); (try clear ho0))); try go_wp2_with (first | ((with_reducible refine gate_dst (N := 1) rfl ?_); refine box_event ?hg (N := 1) ?hd (cs := #[.slice A0_0 l0_0.length c0_0, .slice A0_1 l0_1.length c0_1, .int .i64 a0_2]) (t := 45) ?hr ?_; (case hd => rfl); (case hg => rfl); (case hr => first | (go_simp; done) | (go_simp; rfl)); intro gb322 hg w7 hbox hb; have n0_ := Aside0.mk (below_step (zH HB.out) hb); have n1_ := Aside0.mk (hbox); have n2_ := Aside0.mk (zg hg (below_size (zH HB.out)) : w.heap.size ≤ gb322); have n3_ := Aside0.mk (zg hg (below_size (zH HB.out)) : w.heap.size ≤ gb322); clear HB; have HB := n0_; have BK322 := n1_; have GW322 := n2_; have GE322 := n3_; clear n0_ n1_ n2_ n3_; clear hb hbox hg; have hcz8_0 : w7.cell? ⟨gb322, 0, none⟩ = some (.slice A0_0 l0_0.length c0_0) := (blk_cell BK322.out 0).trans rfl; have hcz8_1 : w7.cell? ⟨gb322, 1, none⟩ = some (.slice A0_1 l0_1.length c0_1) := (blk_cell BK322.out 1).trans rfl; have hcz8_2 : w7.cell? ⟨gb322, 2, none⟩ = some (.int .i64 a0_2) := (blk_cell BK322.out 2).trans rfl; have hfz8_0 := blk_frozen BK322.out 0; have hfz8_1 := blk_frozen BK322.out 1; have hfz8_2 := blk_frozen BK322.out 2) | (go_at_call 19; (try simp only [i64_w, i32_w]); (with_reducible refine (pledgeref18_Valid.calls k _ _ l0_0 _ _ l0_1 a0_2 t323 _ ?side1 ?side2 ?side3 ?side4 A2.out).mono ?_); (case side1 => exact zC HR0_0.out HB.out); (case side2 => exact HC0_0.out); (case side3 => exact zC HR0_1.out HB.out); (case side4 => exact HC0_1.out); rintro e w9 ⟨rfl, hb⟩; have n0_ := zBB BK322 hb; have n1_ := Aside0.mk (below_step (zH1 HB.out GE322.out) hb); clear BK322; clear HB; have BK322 := n0_; have HB := n1_; clear n0_ n1_; (try clear hb); (try clear hb2); (try clear hk); (try clear hi); have hcz10_0 : w9.cell? ⟨gb322, 0, none⟩ = some (.slice A0_0 l0_0.length c0_0) := (blk_cell BK322.out 0).trans rfl; have hcz10_1 : w9.cell? ⟨gb322, 1, none⟩ = some (.slice A0_1 l0_1.length c0_1) := (blk_cell BK322.out 1).trans rfl; have hcz10_2 : w9.cell? ⟨gb322, 2, none⟩ = some (.int .i64 a0_2) := (blk_cell BK322.out 2).trans rfl; have hfz10_0 := blk_frozen BK322.out 0; have hfz10_1 := blk_frozen BK322.out 1; have hfz10_2 := blk_frozen BK322.out 2) | ((with_reducible refine gate_dst (N := 17) rfl ?_); refine Kd.R_make (Kd.int .i64) _ 3 rfl (N := 17) rfl 30 _ _ rfl (l0_0.length : Int) rfl rfl Tryd.underlying30 (.int .i64 0) 8 info3 rfl (by decide) (by omega) 0 (ok := fun _ => True) (okp := fun _ => True) rfl (fun _ hk => hk) trivial (of_decide_eq_true zA) (Nat.le_trans (Nat.mul_le_mul_right _ (of_decide_eq_true zA : (l0_0.length : Int).toNat ≤ 35184372088832)) (by omega)) (Below.refl _ _) (Nat.le_refl _) ?_; intro v325 w11 ho12 hb hg_ hnew_; clear hg_ hnew_; (first | rw [← Ny324.out] at ho12 | (simp only [Int.reduceToNat] at ho12; rw [← Ny324.out] at ho12)); have n0_ := Aside0.mk (Kd.R_lower ho12 (below_size (zH1 HB.out GE322.out))); have n1_ := zBB BK322 hb; have n2_ := Aside0.mk (below_step (zH1 HB.out GE322.out) hb); clear BK322; clear HB; have HO326 := n0_; have BK322 := n1_; have HB := n2_; clear n0_ n1_ n2_; clear hb ho12; have hcz13_0 : w11.cell? ⟨gb322, 0, none⟩ = some (.slice A0_0 l0_0.length c0_0) := (blk_cell BK322.out 0).trans rfl; have hcz13_1 : w11.cell? ⟨gb322, 1, none⟩ = some (.slice A0_1 l0_1.length c0_1) := (blk_cell BK322.out 1).trans rfl; have hcz13_2 : w11.cell? ⟨gb322, 2, none⟩ = some (.int .i64 a0_2) := (blk_cell BK322.out 2).trans rfl; have hfz13_0 := blk_frozen BK322.out 0; have hfz13_1 := blk_frozen BK322.out 1; have hfz13_2 := blk_frozen BK322.out 2) | (go_at_call 41; (try simp only [i64_w, i32_w]); (with_reducible refine (pledgeref18_Order.calls k _ _ l0_0 t327 _ ?side1 ?side2 A6.out).mono ?_); (case side1 => exact zC HR0_0.out HB.out); (case side2 => exact HC0_0.out); rintro e w14 ⟨v328, rfl, ho0, hb⟩; have n0_ := Aside0.mk (Kd.R_elder' (zR HO326.out) (Kd.R_base ho0) hb); have n1_ := Aside0.mk (Kd.R_lower (Kd.R_new' ho0 (Kd.R_lt (zR HO326.out))) (below_size (zH1 HB.out GE322.out))); have n2_ := zBB BK322 hb; have n3_ := Aside0.mk (below_step (zH1 HB.out GE322.out) hb); clear HO326; clear BK322; clear HB; have HO326 := n0_; have HO329 := n1_; have BK322 := n2_; have HB := n3_; clear n0_ n1_ n2_ n3_; (try clear hb); (try clear hb2); (try clear hk); (try clear hi); (try clear ho0))))
    go_loopg [6, 7] k (fun kq v6 v7 w' => ∃ (x4_1 : List Int) (x6_1 : Int) (x7_1 : Int), v6 = .int .i64 x6_1 ∧ v7 = .int .i64 x7_1 ∧ Aside0 (pledgeref18_Greedy.l0 kq x4_1 t327 x6_1 x7_1 l0_0 l0_1 a0_2 = some (r1, r2)) ∧ Aside0 (kq ≤ k) ∧ Aside0 (Kd.R (Kd.int .i64) 3 w' w.heap.size (fun k_ => some k_ ≠ (v328 : Value).ownBlock) v325 x4_1) ∧ Aside0 (Kd.R (Kd.int .i64) 3 w' w.heap.size (fun k_ => some k_ ≠ (v325 : Value).ownBlock) v328 t327) ∧ Aside0 (w'.heap[gb322]? = some (.cells #[(.slice A0_0 l0_0.length c0_0), (.slice A0_1 l0_1.length c0_1), .int .i64 a0_2] 45 (0, 0))) ∧ Aside0 (Below w.heap.size w w'))
    case atStart => exact ⟨(y324), (0), (0), zS, zS, H', ⟨Nat.le_refl _⟩, ⟨by (with_reducible repeat (first | apply Kd.R_alloc | apply Kd.R_drewN | apply Kd.R_drew)); exact Kd.R_mono HO326.out (fun _ hk => hk.2)⟩, ⟨by (with_reducible repeat (first | apply Kd.R_alloc | apply Kd.R_drewN | apply Kd.R_drew)); exact Kd.R_mono HO329.out (fun _ hk => hk.2)⟩, ⟨zB BK322.out⟩, ⟨zH1 HB.out GE322.out⟩⟩
    case round =>
     clear H'
     try clear c2
     try clear p2
     try clear c3
     try clear c3b0
     try clear c3b1
     try clear c4
     try clear c4b0
     try clear c4b1
     try clear c5
     try clear c5b0
     try clear c5b1
     try clear hcz10_0
     try clear hcz10_1
     try clear hcz10_2
     try clear hcz13_0
     try clear hcz13_1
     try clear hcz13_2
     try clear hcz8_0
     try clear hcz8_1
     try clear hcz8_2
     try clear hfz10_0
     try clear hfz10_1
     try clear hfz10_2
     try clear hfz13_0
     try clear hfz13_1
     try clear hfz13_2
     try clear hfz8_0
     try clear hfz8_1
     try clear hfz8_2
     obtain ⟨x4_1, x6_1, x7_1, rfl, rfl, HA, HK1, HO_4, HO_5, BK322, HB⟩ := hrel
     cases gk with
     | zero => exact absurd HA.out (by simp [pledgeref18_Greedy.l0])
     | succ k1 =>
      have H := HA.out; clear HA; simp only [pledgeref18_Greedy.l0] at H; by_cases c15 : x7_1 < (t327.length : Int)
      ·
       rw [if_pos c15] at H; have c15b0 : decide (x7_1 < (t327.length : Int)) = true := decide_eq_true c15; clear c15; by_cases c16 : 0 ≤ x7_1
       ·
        rw [if_pos c16] at H; have c16b0 : decide (0 ≤ x7_1) = true := decide_eq_true c16; clear c16; have H' := Aside0.mk H; clear H; obtain ⟨Ao17, co17, eo17⟩ := Kd.R_slice HO_5.out; subst eo17; have p330 : 0 ≤ (x7_1 : Int) := of_decide_eq_true zA; have q330 : x7_1 < (t327.length : Int) := of_decide_eq_true zA; obtain ⟨ad330, e330, hx330_0⟩ := Kd.at_int (Kd.R_reads' HO_5.out).2.2 x7_1 p330 q330
        cases e330
        replace p330 := eq_true p330; replace q330 := eq_true q330
        go_wp2
        repeat (go_quiet (fail); try go_wp2)
        go_loopg [6] k1 (fun kq v6 w' => ∃ (x4_2 : List Int) (x6_2 : Int), v6 = .int .i64 x6_2 ∧ Aside0 (pledgeref18_Greedy.l1 kq x4_2 t327 x6_2 x7_1 (rd t327 x7_1) l0_0 l0_1 a0_2 = some (r1, r2)) ∧ Aside0 (kq ≤ k1) ∧ Aside0 (Kd.R (Kd.int .i64) 3 w' w.heap.size (fun k_ => some k_ ≠ ((.slice (some ad330) t327.length co17) : Value).ownBlock) v325 x4_2) ∧ Aside0 (Kd.R (Kd.int .i64) 3 w' w.heap.size (fun k_ => some k_ ≠ (v325 : Value).ownBlock) (.slice (some ad330) t327.length co17) t327) ∧ Aside0 (w'.heap[gb322]? = some (.cells #[(.slice A0_0 l0_0.length c0_0), (.slice A0_1 l0_1.length c0_1), .int .i64 a0_2] 45 (0, 0))) ∧ Aside0 (Below w.heap.size w w'))
        case atStart => exact ⟨(x4_1), (x6_1), zS, H', ⟨Nat.le_refl _⟩, ⟨by (with_reducible repeat (first | apply Kd.R_alloc | apply Kd.R_drewN | apply Kd.R_drew)); exact HO_4.out⟩, ⟨by (with_reducible repeat (first | apply Kd.R_alloc | apply Kd.R_drewN | apply Kd.R_drew)); exact HO_5.out⟩, ⟨zB BK322.out⟩, ⟨zH1 HB.out GE322.out⟩⟩
        case round =>
         clear H'
         try clear c1
         try clear c2
         try clear p2
         try clear c3
         try clear c3b0
         try clear c3b1
         try clear p3
         try clear q3
         try clear hx3
         try clear c4
         try clear c4b0
         try clear c4b1
         try clear c5
         try clear c5b0
         try clear c5b1
         try clear c15
         try clear c15b0
         try clear c16
         try clear c16b0
         try clear hcz10_0
         try clear hcz10_1
         try clear hcz10_2
         try clear hcz13_0
         try clear hcz13_1
         try clear hcz13_2
         try clear hcz8_0
         try clear hcz8_1
         try clear hcz8_2
         try clear hfz10_0
         try clear hfz10_1
         try clear hfz10_2
         try clear hfz13_0
         try clear hfz13_1
         try clear hfz13_2
         try clear hfz8_0
         try clear hfz8_1
         try clear hfz8_2
         try clear hx330_0
         try clear p2
         try clear p330
         try clear q330
         obtain ⟨x4_2, x6_2, rfl, HA, HK2, HO_4, HO_5, BK322, HB⟩ := hrel
         cases gk with
         | zero => exact absurd HA.out (by simp [pledgeref18_Greedy.l1])
         | succ k2 =>
          have H := HA.out; clear HA; simp only [pledgeref18_Greedy.l1] at H; have HC18 := Aside0.mk H; clear H
          go_upto_region 10 with (fail)
          repeat (go_quiet (fail); go_upto_region 10 with (fail))
          go_cut [47] (fun v47 wc => ∃ (kq : Nat) (x47_17 : Bool), v47 = .bool x47_17 ∧ Aside0 (pledgeref18_Greedy.j2 kq x4_2 t327 x6_2 x7_1 (rd t327 x7_1) x47_17 l0_0 l0_1 a0_2 = some (r1, r2)) ∧ Aside0 (kq ≤ k2) ∧ Aside0 (Kd.R (Kd.int .i64) 3 wc w.heap.size (fun k_ => some k_ ≠ ((.slice (some ad330) t327.length co17) : Value).ownBlock) v325 x4_2) ∧ Aside0 (Kd.R (Kd.int .i64) 3 wc w.heap.size (fun k_ => some k_ ≠ (v325 : Value).ownBlock) (.slice (some ad330) t327.length co17) t327) ∧ Aside0 (wc.heap[gb322]? = some (.cells #[(.slice A0_0 l0_0.length c0_0), (.slice A0_1 l0_1.length c0_1), .int .i64 a0_2] 45 (0, 0))) ∧ Aside0 (Below w.heap.size w wc))
          case first =>
           have H := HC18.out; clear HC18; by_cases c19 : x6_2 < a0_2
           ·
            rw [if_pos c19] at H; have c19b0 : decide (x6_2 < a0_2) = true := decide_eq_true c19; clear c19
            (first | rw [c19b0] | (simp only [i64_w, i32_w]; rw [c19b0]) | skip)
            by_cases c20 : 0 ≤ (rd t327 x7_1)
            ·
             rw [if_pos c20] at H; have c20b0 : decide (0 ≤ (rd t327 x7_1)) = true := decide_eq_true c20; clear c20; by_cases c21 : (rd t327 x7_1) < (x4_2.length : Int)
             ·
              rw [if_pos c21] at H; have c21b0 : decide ((rd t327 x7_1) < (x4_2.length : Int)) = true := decide_eq_true c21; clear c21; by_cases c22 : (rd t327 x7_1) < (l0_0.length : Int)
              ·
               rw [if_pos c22] at H; have c22b0 : decide ((rd t327 x7_1) < (l0_0.length : Int)) = true := decide_eq_true c22; clear c22; have H' := Aside0.mk H; clear H; have hcz23_0 : wr.cell? ⟨gb322, 0, none⟩ = some (.slice A0_0 l0_0.length c0_0) := (blk_cell BK322.out 0).trans rfl; have hcz23_1 : wr.cell? ⟨gb322, 1, none⟩ = some (.slice A0_1 l0_1.length c0_1) := (blk_cell BK322.out 1).trans rfl; have hcz23_2 : wr.cell? ⟨gb322, 2, none⟩ = some (.int .i64 a0_2) := (blk_cell BK322.out 2).trans rfl; have hfz23_0 := blk_frozen BK322.out 0; have hfz23_1 := blk_frozen BK322.out 1; have hfz23_2 := blk_frozen BK322.out 2; obtain ⟨Ao24, co24, eo24⟩ := Kd.R_slice HO_4.out; subst eo24; have p331 : 0 ≤ ((rd t327 x7_1) : Int) := of_decide_eq_true zA; have q331 : (rd t327 x7_1) < (x4_2.length : Int) := of_decide_eq_true zA; obtain ⟨ad331, e331, hx331_0⟩ := Kd.at_int (Kd.R_reads' HO_4.out).2.2 (rd t327 x7_1) p331 q331
               cases e331
               replace p331 := eq_true p331; replace q331 := eq_true q331; have p332 : 0 ≤ ((rd t327 x7_1) : Int) := of_decide_eq_true zA; have q332 : (rd t327 x7_1) < (l0_0.length : Int) := of_decide_eq_true zA; obtain ⟨ad332, e332, hx332_0, hx332_1, hx332_2, hx332_3⟩ := at_T25 HR0_0.out (rd t327 x7_1) p332 q332
               cases e332
               replace hx332_0 := (HB.out.cell (World.block_lt_of_cell? w _ hx332_0)).trans hx332_0; replace hx332_1 := (HB.out.cell (World.block_lt_of_cell? w _ hx332_1)).trans hx332_1; replace hx332_2 := (HB.out.cell (World.block_lt_of_cell? w _ hx332_2)).trans hx332_2; replace hx332_3 := (HB.out.cell (World.block_lt_of_cell? w _ hx332_3)).trans hx332_3; replace p332 := eq_true p332; replace q332 := eq_true q332
               go_wp2
               repeat (go_quiet (fail); try go_wp2)
               go_meet
               case rel => exact ⟨_, (decide ((rd x4_2 (rd t327 x7_1)) < ((rd_T25 l0_0 (rd t327 x7_1)).f0))), zS, H', ⟨by have := HK1.out; have := HK2.out; first | omega | exact Nat.le_refl _⟩, ⟨by (with_reducible repeat (first | apply Kd.R_alloc | apply Kd.R_drewN | apply Kd.R_drew)); exact HO_4.out⟩, ⟨by (with_reducible repeat (first | apply Kd.R_alloc | apply Kd.R_drewN | apply Kd.R_drew)); exact HO_5.out⟩, ⟨zB BK322.out⟩, ⟨zH1 HB.out GE322.out⟩⟩
              ·
               rw [if_neg c22] at H; exact absurd H (by simp)
             ·
              rw [if_neg c21] at H; exact absurd H (by simp)
            ·
             rw [if_neg c20] at H; exact absurd H (by simp)
           ·
            rw [if_neg c19] at H; have c19b0 : decide (x6_2 < a0_2) = false := decide_eq_false c19; clear c19
            (first | rw [c19b0] | (simp only [i64_w, i32_w]; rw [c19b0]) | skip)
            have H' := Aside0.mk H; clear H; have hcz25_0 : wr.cell? ⟨gb322, 0, none⟩ = some (.slice A0_0 l0_0.length c0_0) := (blk_cell BK322.out 0).trans rfl; have hcz25_1 : wr.cell? ⟨gb322, 1, none⟩ = some (.slice A0_1 l0_1.length c0_1) := (blk_cell BK322.out 1).trans rfl; have hcz25_2 : wr.cell? ⟨gb322, 2, none⟩ = some (.int .i64 a0_2) := (blk_cell BK322.out 2).trans rfl; have hfz25_0 := blk_frozen BK322.out 0; have hfz25_1 := blk_frozen BK322.out 1; have hfz25_2 := blk_frozen BK322.out 2
            go_wp2
            repeat (go_quiet (fail); try go_wp2)
            go_meet
            case rel => exact ⟨_, (false), zS, H', ⟨by have := HK1.out; have := HK2.out; first | omega | exact Nat.le_refl _⟩, ⟨by (with_reducible repeat (first | apply Kd.R_alloc | apply Kd.R_drewN | apply Kd.R_drew)); exact HO_4.out⟩, ⟨by (with_reducible repeat (first | apply Kd.R_alloc | apply Kd.R_drewN | apply Kd.R_drew)); exact HO_5.out⟩, ⟨zB BK322.out⟩, ⟨zH1 HB.out GE322.out⟩⟩
          case rest =>
           clear HC18
           try clear c1
           try clear c2
           try clear p2
           try clear c3
           try clear c3b0
           try clear c3b1
           try clear p3
           try clear q3
           try clear hx3
           try clear c4
           try clear c4b0
           try clear c4b1
           try clear c5
           try clear c5b0
           try clear c5b1
           try clear c15
           try clear c15b0
           try clear c16
           try clear c16b0
           try clear c19
           try clear c19b0
           try clear c20
           try clear c20b0
           try clear c21
           try clear c21b0
           try clear c22
           try clear c22b0
           try clear c25
           try clear hcz10_0
           try clear hcz10_1
           try clear hcz10_2
           try clear hcz13_0
           try clear hcz13_1
           try clear hcz13_2
           try clear hcz23_0
           try clear hcz23_1
           try clear hcz23_2
           try clear hcz25_0
           try clear hcz25_1
           try clear hcz25_2
           try clear hcz8_0
           try clear hcz8_1
           try clear hcz8_2
           try clear hfz10_0
           try clear hfz10_1
           try clear hfz10_2
           try clear hfz13_0
           try clear hfz13_1
           try clear hfz13_2
           try clear hfz23_0
           try clear hfz23_1
           try clear hfz23_2
           try clear hfz25_0
           try clear hfz25_1
           try clear hfz25_2
           try clear hfz8_0
           try clear hfz8_1
           try clear hfz8_2
           try clear hx330_0
           try clear hx331_0
           try clear hx332_0
           try clear hx332_1
           try clear hx332_2
           try clear hx332_3
           try clear p2
           try clear p3
           try clear p330
           try clear p331
           try clear p332
           try clear q3
           try clear q330
           try clear q331
           try clear q332
           obtain ⟨kq, x47_17, rfl, HA, HJ17, HO_4, HO_5, BK322, HB⟩ := hcut
           cases kq with
           | zero => exact absurd HA.out (by simp [pledgeref18_Greedy.j2])
           | succ kj17 =>
            have H := HA.out; clear HA; simp only [pledgeref18_Greedy.j2] at H; by_cases c26 : x47_17 = true
            ·
             subst c26; have H1 : (if 0 ≤ (rd t327 x7_1) then (if (rd t327 x7_1) < (x4_2.length : Int) then ((some (x4_2.set ((rd t327 x7_1) : Int).toNat (wrap64 ((rd x4_2 (rd t327 x7_1)) + 1)) : List Int)).bind fun y334 => ((pledgeref18_Worth.f kj17 l0_0 l0_1 a0_2 y334).bind fun bt335 => (if bt335.1 ≤ x6_2 then (pledgeref18_Greedy.l0 kj17 (y334.set ((rd t327 x7_1) : Int).toNat (wrap64 ((rd y334 (rd t327 x7_1)) - 1))) t327 x6_2 (wrap64 (x7_1 + 1)) l0_0 l0_1 a0_2) else (pledgeref18_Greedy.l1 kj17 y334 t327 bt335.1 x7_1 (rd t327 x7_1) l0_0 l0_1 a0_2)))) else (none)) else (none)) = some (r1, r2) := by rw [if_pos rfl] at H; exact H
             clear H; have H := H1; clear H1; by_cases c27 : 0 ≤ (rd t327 x7_1)
             ·
              rw [if_pos c27] at H; have c27b0 : decide (0 ≤ (rd t327 x7_1)) = true := decide_eq_true c27; clear c27; by_cases c28 : (rd t327 x7_1) < (x4_2.length : Int)
              ·
               rw [if_pos c28] at H; have c28b0 : decide ((rd t327 x7_1) < (x4_2.length : Int)) = true := decide_eq_true c28; clear c28; obtain ⟨y334, hy334⟩ : ∃ y_ : List Int, y_ = (x4_2.set ((rd t327 x7_1) : Int).toNat (wrap64 ((rd x4_2 (rd t327 x7_1)) + 1))) := ⟨_, rfl⟩; replace H : ((pledgeref18_Worth.f kj17 l0_0 l0_1 a0_2 y334).bind fun bt335 => (if bt335.1 ≤ x6_2 then (pledgeref18_Greedy.l0 kj17 (y334.set ((rd t327 x7_1) : Int).toNat (wrap64 ((rd y334 (rd t327 x7_1)) - 1))) t327 x6_2 (wrap64 (x7_1 + 1)) l0_0 l0_1 a0_2) else (pledgeref18_Greedy.l1 kj17 y334 t327 bt335.1 x7_1 (rd t327 x7_1) l0_0 l0_1 a0_2))) = some (r1, r2) := by first | (rw [hy334]; with_reducible exact H) | (have H2_ := (Option.bind_some _ _).symm.trans H; rw [hy334]; with_reducible exact H2_) | (have H2_ := (Option.bind_some _ _).symm.trans H; with_reducible exact H2_) | with_reducible exact H | (rw [hy334]; exact H) | exact H
               have Ny334 := Aside0.mk hy334; clear hy334; replace H := Option.bind_eq_some_iff.mp H; obtain ⟨⟨t335, t336⟩, A300, H⟩ := H; replace H : (if t335 ≤ x6_2 then (pledgeref18_Greedy.l0 kj17 (y334.set ((rd t327 x7_1) : Int).toNat (wrap64 ((rd y334 (rd t327 x7_1)) - 1))) t327 x6_2 (wrap64 (x7_1 + 1)) l0_0 l0_1 a0_2) else (pledgeref18_Greedy.l1 kj17 y334 t327 t335 x7_1 (rd t327 x7_1) l0_0 l0_1 a0_2)) = some (r1, r2) := H; have A30 := Aside0.mk A300; clear A300; by_cases c31 : t335 ≤ x6_2
               ·
                rw [if_pos c31] at H; have c31b0 : decide (t335 ≤ x6_2) = true := decide_eq_true c31; clear c31; obtain ⟨y338, hy338⟩ : ∃ y_ : List Int, y_ = (y334.set ((rd t327 x7_1) : Int).toNat (wrap64 ((rd y334 (rd t327 x7_1)) - 1))) := ⟨_, rfl⟩; replace H : (pledgeref18_Greedy.l0 kj17 y338 t327 x6_2 (wrap64 (x7_1 + 1)) l0_0 l0_1 a0_2) = some (r1, r2) := by first | (rw [hy338]; with_reducible exact H) | (have H2_ := (Option.bind_some _ _).symm.trans H; rw [hy338]; with_reducible exact H2_) | (have H2_ := (Option.bind_some _ _).symm.trans H; with_reducible exact H2_) | with_reducible exact H | (rw [hy338]; exact H) | exact H
                have Ny338 := Aside0.mk hy338; clear hy338; have H' := Aside0.mk H; clear H; obtain ⟨Ao33, co33, eo33⟩ := Kd.R_slice HO_4.out; subst eo33; have p333 : 0 ≤ ((rd t327 x7_1) : Int) := of_decide_eq_true zA; have q333 : (rd t327 x7_1) < (x4_2.length : Int) := of_decide_eq_true zA; obtain ⟨ad333, e333, hx333_0⟩ := Kd.at_int (Kd.R_reads' HO_4.out).2.2 (rd t327 x7_1) p333 q333
                cases e333
                replace p333 := eq_true p333; replace q333 := eq_true q333; have p29 : 0 ≤ ((rd t327 x7_1) : Int) := of_decide_eq_true zA; have q29 : ((rd t327 x7_1) : Int) < ((x4_2.length : Int) : Int) := of_decide_eq_true zA; obtain ⟨go29, co29, eo29, gb29, gl29, cl29, HG29⟩ := Kd.R_form HO_4.out (by omega)
                (first | cases eo29 | (injection eo29 with ea_ en_ ec_; (first | subst ea_ | (injection ea_ with ea_; subst ea_)); subst ec_; clear en_))
                have GB29 := Aside0.mk gb29; have GG29 := Aside0.mk HG29; clear gb29 gl29 HG29
                (first | simp only [add_plain] at hx333_0 | skip)
                obtain ⟨hx29_0, hf29_0⟩ := Kd.R_celln 0 HO_4.out ((rd t327 x7_1) : Int) p29 q29; replace p29 := eq_true p29; replace q29 := eq_true q29; have HP34 := Kd.R_putg HO_4.out ((rd t327 x7_1) : Int) (wrap64 ((rd x4_2 (rd t327 x7_1)) + 1))
                go_wp2_with (first | ((with_reducible refine gate_store (t := 3) (p := 55) rfl ?_); (try (rw [drewN_self wc]; generalize hq_ : World.drewN wc _ = wc; have n0_ := Aside0.mk (Kd.R_at hq_ HO_4.out); have n1_ := Aside0.mk (Kd.R_at hq_ HO_5.out); have n2_ := Aside0.mk (blk_at hq_ BK322.out); have n3_ := Aside0.mk (below_at hq_ HB.out); clear hq_ HO_4 HO_5 BK322 HB; have HO_4 := n0_; have HO_5 := n1_; have BK322 := n2_; have HB := n3_; clear n0_ n1_ n2_ n3_; (try (have HP34 := Kd.R_putg HO_4.out ((rd t327 x7_1) : Int) (wrap64 ((rd x4_2 (rd t327 x7_1)) + 1)))))); refine store_event (t := 3) (p := 55) (v := ?vo_w35) (w1 := (wc.setCell ⟨go29, ((rd t327 x7_1) : Int).toNat, none⟩ (.int .i64 (wrap64 ((rd x4_2 (rd t327 x7_1)) + 1))))) ?hg ?ho ?hn ?hr ?_; (case ho => rfl); (case hg => rfl); (case hn => rfl); (case hr => first | (go_simp; done) | (go_simp; rfl)); intro w35 hw; have hg : wc.grownBy w35 (some go29) := (by rw [hw]; exact HP34.2); have hp_ : Kd.R (Kd.int .i64) 3 w35 w.heap.size (fun k_ => some k_ ≠ (.slice (some ad330) t327.length co17 : Value).ownBlock) (.slice (some ⟨go29, 0, none⟩) x4_2.length co33) y334 := (by rw [hw, Ny334.out]; exact HP34.1); clear HP34; have n0_ := Aside0.mk (hp_); have n1_ := Aside0.mk (Kd.R_after (v := (.slice (some ⟨go29, 0, none⟩) x4_2.length co33)) (v1 := (.slice (some ⟨go29, 0, none⟩) x4_2.length co33)) (ok := (fun _ => True)) (by (with_reducible repeat (first | apply Kd.R_alloc | apply Kd.R_drewN | apply Kd.R_drew)); exact Kd.R_mono HO_5.out (fun _ hk => ⟨trivial, hk⟩)) hg (.inl rfl)); have n2_ := Aside0.mk (blk_grown (g := gb322) (o := .cells #[.slice A0_0 l0_0.length c0_0, .slice A0_1 l0_1.length c0_1, .int .i64 a0_2] 45 (0, 0)) (zB BK322.out) hg (Kd.R_ne HO_4.out BK322.out (by decide))); have n3_ := Aside0.mk ((by rw [hw]; exact below_set (HB.out) GB29.out : Below w.heap.size w w35)); clear HO_4; clear HO_5; clear BK322; clear HB; have HO_4 := n0_; have HO_5 := n1_; have BK322 := n2_; have HB := n3_; clear n0_ n1_ n2_ n3_; clear hg hw hp_; have hcz36_0 : w35.cell? ⟨gb322, 0, none⟩ = some (.slice A0_0 l0_0.length c0_0) := (blk_cell BK322.out 0).trans rfl; have hcz36_1 : w35.cell? ⟨gb322, 1, none⟩ = some (.slice A0_1 l0_1.length c0_1) := (blk_cell BK322.out 1).trans rfl; have hcz36_2 : w35.cell? ⟨gb322, 2, none⟩ = some (.int .i64 a0_2) := (blk_cell BK322.out 2).trans rfl; have hfz36_0 := blk_frozen BK322.out 0; have hfz36_1 := blk_frozen BK322.out 1; have hfz36_2 := blk_frozen BK322.out 2) | (go_at_call 20; refine calls_of_args (args' := #[.agg #[.slice A0_0 l0_0.length c0_0, .slice A0_1 l0_1.length c0_1, .int .i64 a0_2], .slice (some ⟨go29, 0, none⟩) y334.length co33]) (by first | (rw [show y334.length = x4_2.length from (Kd.R_reads' HO_4.out).1.symm] <;> rfl) | rfl) ?_; (with_reducible refine (pledgeref18_Worth.calls kj17 _ _ l0_0 _ _ l0_1 a0_2 _ _ y334 t335 t336 _ ?side1 ?side2 ?side3 ?side4 ?side5 ?side6 A30.out).mono ?_); (case side1 => exact zC HR0_0.out HB.out); (case side2 => exact HC0_0.out); (case side3 => exact zC HR0_1.out HB.out); (case side4 => exact HC0_1.out); (case side5 => repeat (first | exact (Kd.R_reads' HO_4.out).2.2 | (with_reducible refine Kd.C_alloc ?_ _) | (with_reducible refine Kd.C_drewN ?_ _) | (with_reducible refine Kd.C_drew ?_))); (case side6 => rw [show y334.length = x4_2.length from (Kd.R_reads' HO_4.out).1.symm]; exact (Kd.R_reads' HO_4.out).2.1); rintro e w37 ⟨rfl, hb⟩; have n0_ := Aside0.mk (Kd.R_below (zR HO_4.out) hb); have n1_ := Aside0.mk (Kd.R_below (zR HO_5.out) hb); have n2_ := zBB BK322 hb; have n3_ := Aside0.mk (below_step (zH1 HB.out GE322.out) hb); clear HO_4; clear HO_5; clear BK322; clear HB; have HO_4 := n0_; have HO_5 := n1_; have BK322 := n2_; have HB := n3_; clear n0_ n1_ n2_ n3_; (try clear hb); (try clear hb2); (try clear hk); (try clear hi); have p337 : 0 ≤ ((rd t327 x7_1) : Int) := of_decide_eq_true zA; have q337 : (rd t327 x7_1) < (y334.length : Int) := (by have h_ : ((rd t327 x7_1) : Int) < ((x4_2.length : Int) : Int) := of_decide_eq_true zA; first | (have e_ := (Kd.R_reads' HO_4.out).1; omega) | simpa only [Ny334.out, List.length_set] using h_); have ql337 : (((rd t327 x7_1) : Int) < ((x4_2.length : Int) : Int)) = True := eq_true (of_decide_eq_true zA); obtain ⟨ad337, e337, hx337_0⟩ := Kd.at_int (Kd.R_reads' HO_4.out).2.2 (rd t327 x7_1) p337 q337; obtain rfl : (⟨go29, 0, none⟩ : Addr) = ad337 := (by injection e337); (first | simp only [add_plain] at hx337_0 | simp only [add_at] at hx337_0 | simp only [Addr.add, Nat.zero_add] at hx337_0 | skip); replace p337 := eq_true p337; replace q337 := eq_true q337; have p32 : 0 ≤ ((rd t327 x7_1) : Int) := of_decide_eq_true zA; have q32 : ((rd t327 x7_1) : Int) < ((x4_2.length : Int) : Int) := of_decide_eq_true zA; obtain ⟨hx32_0, hf32_0⟩ := Kd.R_celln 0 HO_4.out ((rd t327 x7_1) : Int) p32 q32; replace p32 := eq_true p32; replace q32 := eq_true q32; obtain ⟨hy38_, hz38_⟩ := Kd.R_celln 0 HO_4.out ((rd t327 x7_1) : Int) (of_decide_eq_true zA) (of_decide_eq_true zA); have HP38 := Kd.R_putg HO_4.out ((rd t327 x7_1) : Int) (wrap64 ((rd y334 (rd t327 x7_1)) - 1))) | ((with_reducible refine gate_store (t := 3) (p := 72) rfl ?_); (try (rw [drewN_self w37]; generalize hq_ : World.drewN w37 _ = w37; have n0_ := Aside0.mk (Kd.R_at hq_ HO_4.out); have n1_ := Aside0.mk (Kd.R_at hq_ HO_5.out); have n2_ := Aside0.mk (blk_at hq_ BK322.out); have n3_ := Aside0.mk (below_at hq_ HB.out); clear hq_ HO_4 HO_5 BK322 HB; have HO_4 := n0_; have HO_5 := n1_; have BK322 := n2_; have HB := n3_; clear n0_ n1_ n2_ n3_; (try (obtain ⟨hy38_, hz38_⟩ := Kd.R_celln 0 HO_4.out ((rd t327 x7_1) : Int) (of_decide_eq_true zA) (of_decide_eq_true zA))); (try (have HP38 := Kd.R_putg HO_4.out ((rd t327 x7_1) : Int) (wrap64 ((rd y334 (rd t327 x7_1)) - 1)))))); refine store_event (t := 3) (p := 72) (v := ?vo_w39) (w1 := (w37.setCell ⟨go29, ((rd t327 x7_1) : Int).toNat, none⟩ (.int .i64 (wrap64 ((rd y334 (rd t327 x7_1)) - 1))))) ?hg ?ho ?hn ?hr ?_; (case ho => rfl); (case hg => rfl); (case hn => rfl); (case hr => first | (go_simp; done) | (go_simp; rfl)); intro w39 hw; have hg : w37.grownBy w39 (some go29) := (by rw [hw]; exact HP38.2); have hp_ : Kd.R (Kd.int .i64) 3 w39 w.heap.size (fun k_ => some k_ ≠ (.slice (some ad330) t327.length co17 : Value).ownBlock) (.slice (some ⟨go29, 0, none⟩) x4_2.length co33) y338 := (by rw [hw, Ny338.out]; exact HP38.1); clear HP38; have n0_ := Aside0.mk (hp_); have n1_ := Aside0.mk (Kd.R_after (v := (.slice (some ⟨go29, 0, none⟩) x4_2.length co33)) (v1 := (.slice (some ⟨go29, 0, none⟩) x4_2.length co33)) (ok := (fun _ => True)) (zR HO_5.out) hg (.inl rfl)); have n2_ := Aside0.mk (blk_grown (g := gb322) (o := .cells #[.slice A0_0 l0_0.length c0_0, .slice A0_1 l0_1.length c0_1, .int .i64 a0_2] 45 (0, 0)) (zB BK322.out) hg (Kd.R_ne HO_4.out BK322.out (by decide))); have n3_ := Aside0.mk ((by rw [hw]; exact below_set (HB.out) GB29.out : Below w.heap.size w w39)); clear HO_4; clear HO_5; clear BK322; clear HB; have HO_4 := n0_; have HO_5 := n1_; have BK322 := n2_; have HB := n3_; clear n0_ n1_ n2_ n3_; clear hg hw hp_))
                repeat (go_quiet (first | ((with_reducible refine gate_store (t := 3) (p := 55) rfl ?_); (try (rw [drewN_self wc]; generalize hq_ : World.drewN wc _ = wc; have n0_ := Aside0.mk (Kd.R_at hq_ HO_4.out); have n1_ := Aside0.mk (Kd.R_at hq_ HO_5.out); have n2_ := Aside0.mk (blk_at hq_ BK322.out); have n3_ := Aside0.mk (below_at hq_ HB.out); clear hq_ HO_4 HO_5 BK322 HB; have HO_4 := n0_; have HO_5 := n1_; have BK322 := n2_; have HB := n3_; clear n0_ n1_ n2_ n3_; (try (have HP34 := Kd.R_putg HO_4.out ((rd t327 x7_1) : Int) (wrap64 ((rd x4_2 (rd t327 x7_1)) + 1)))))); refine store_event (t := 3) (p := 55) (v := ?vo_w35) (w1 := (wc.setCell ⟨go29, ((rd t327 x7_1) : Int).toNat, none⟩ (.int .i64 (wrap64 ((rd x4_2 (rd t327 x7_1)) + 1))))) ?hg ?ho ?hn ?hr ?_; (case ho => rfl); (case hg => rfl); (case hn => rfl); (case hr => first | (go_simp; done) | (go_simp; rfl)); intro w35 hw; have hg : wc.grownBy w35 (some go29) := (by rw [hw]; exact HP34.2); have hp_ : Kd.R (Kd.int .i64) 3 w35 w.heap.size (fun k_ => some k_ ≠ (.slice (some ad330) t327.length co17 : Value).ownBlock) (.slice (some ⟨go29, 0, none⟩) x4_2.length co33) y334 := (by rw [hw, Ny334.out]; exact HP34.1); clear HP34; have n0_ := Aside0.mk (hp_); have n1_ := Aside0.mk (Kd.R_after (v := (.slice (some ⟨go29, 0, none⟩) x4_2.length co33)) (v1 := (.slice (some ⟨go29, 0, none⟩) x4_2.length co33)) (ok := (fun _ => True)) (by (with_reducible repeat (first | apply Kd.R_alloc | apply Kd.R_drewN | apply Kd.R_drew)); exact Kd.R_mono HO_5.out (fun _ hk => ⟨trivial, hk⟩)) hg (.inl rfl)); have n2_ := Aside0.mk (blk_grown (g := gb322) (o := .cells #[.slice A0_0 l0_0.length c0_0, .slice A0_1 l0_1.length c0_1, .int .i64 a0_2] 45 (0, 0)) (zB BK322.out) hg (Kd.R_ne HO_4.out BK322.out (by decide))); have n3_ := Aside0.mk ((by rw [hw]; exact below_set (HB.out) GB29.out : Below w.heap.size w w35)); clear HO_4; clear HO_5; clear BK322; clear HB; have HO_4 := n0_; have HO_5 := n1_; have BK322 := n2_; have HB := n3_; clear n0_ n1_ n2_ n3_; clear hg hw hp_; have hcz36_0 : w35.cell? ⟨gb322, 0, none⟩ = some (.slice A0_0 l0_0.length c0_0) := (blk_cell BK322.out 0).trans rfl; have hcz36_1 : w35.cell? ⟨gb322, 1, none⟩ = some (.slice A0_1 l0_1.length c0_1) := (blk_cell BK322.out 1).trans rfl; have hcz36_2 : w35.cell? ⟨gb322, 2, none⟩ = some (.int .i64 a0_2) := (blk_cell BK322.out 2).trans rfl; have hfz36_0 := blk_frozen BK322.out 0; have hfz36_1 := blk_frozen BK322.out 1; have hfz36_2 := blk_frozen BK322.out 2) | (go_at_call 20; refine calls_of_args (args' := #[.agg #[.slice A0_0 l0_0.length c0_0, .slice A0_1 l0_1.length c0_1, .int .i64 a0_2], .slice (some ⟨go29, 0, none⟩) y334.length co33]) (by first | (rw [show y334.length = x4_2.length from (Kd.R_reads' HO_4.out).1.symm] <;> rfl) | rfl) ?_; (with_reducible refine (pledgeref18_Worth.calls kj17 _ _ l0_0 _ _ l0_1 a0_2 _ _ y334 t335 t336 _ ?side1 ?side2 ?side3 ?side4 ?side5 ?side6 A30.out).mono ?_); (case side1 => exact zC HR0_0.out HB.out); (case side2 => exact HC0_0.out); (case side3 => exact zC HR0_1.out HB.out); (case side4 => exact HC0_1.out); (case side5 => repeat (first | exact (Kd.R_reads' HO_4.out).2.2 | (with_reducible refine Kd.C_alloc ?_ _) | (with_reducible refine Kd.C_drewN ?_ _) | (with_reducible refine Kd.C_drew ?_))); (case side6 => rw [show y334.length = x4_2.length from (Kd.R_reads' HO_4.out).1.symm]; exact (Kd.R_reads' HO_4.out).2.1); rintro e w37 ⟨rfl, hb⟩; have n0_ := Aside0.mk (Kd.R_below (zR HO_4.out) hb); have n1_ := Aside0.mk (Kd.R_below (zR HO_5.out) hb); have n2_ := zBB BK322 hb; have n3_ := Aside0.mk (below_step (zH1 HB.out GE322.out) hb); clear HO_4; clear HO_5; clear BK322; clear HB; have HO_4 := n0_; have HO_5 := n1_; have BK322 := n2_; have HB := n3_; clear n0_ n1_ n2_ n3_; (try clear hb); (try clear hb2); (try clear hk); (try clear hi); have p337 : 0 ≤ ((rd t327 x7_1) : Int) := of_decide_eq_true zA; have q337 : (rd t327 x7_1) < (y334.length : Int) := (by have h_ : ((rd t327 x7_1) : Int) < ((x4_2.length : Int) : Int) := of_decide_eq_true zA; first | (have e_ := (Kd.R_reads' HO_4.out).1; omega) | simpa only [Ny334.out, List.length_set] using h_); have ql337 : (((rd t327 x7_1) : Int) < ((x4_2.length : Int) : Int)) = True := eq_true (of_decide_eq_true zA); obtain ⟨ad337, e337, hx337_0⟩ := Kd.at_int (Kd.R_reads' HO_4.out).2.2 (rd t327 x7_1) p337 q337; obtain rfl : (⟨go29, 0, none⟩ : Addr) = ad337 := (by injection e337); (first | simp only [add_plain] at hx337_0 | simp only [add_at] at hx337_0 | simp only [Addr.add, Nat.zero_add] at hx337_0 | skip); replace p337 := eq_true p337; replace q337 := eq_true q337; have p32 : 0 ≤ ((rd t327 x7_1) : Int) := of_decide_eq_true zA; have q32 : ((rd t327 x7_1) : Int) < ((x4_2.length : Int) : Int) := of_decide_eq_true zA; obtain ⟨hx32_0, hf32_0⟩ := Kd.R_celln 0 HO_4.out ((rd t327 x7_1) : Int) p32 q32; replace p32 := eq_true p32; replace q32 := eq_true q32; obtain ⟨hy38_, hz38_⟩ := Kd.R_celln 0 HO_4.out ((rd t327 x7_1) : Int) (of_decide_eq_true zA) (of_decide_eq_true zA); have HP38 := Kd.R_putg HO_4.out ((rd t327 x7_1) : Int) (wrap64 ((rd y334 (rd t327 x7_1)) - 1))) | ((with_reducible refine gate_store (t := 3) (p := 72) rfl ?_); (try (rw [drewN_self w37]; generalize hq_ : World.drewN w37 _ = w37; have n0_ := Aside0.mk (Kd.R_at hq_ HO_4.out); have n1_ := Aside0.mk (Kd.R_at hq_ HO_5.out); have n2_ := Aside0.mk (blk_at hq_ BK322.out); have n3_ := Aside0.mk (below_at hq_ HB.out); clear hq_ HO_4 HO_5 BK322 HB; have HO_4 := n0_; have HO_5 := n1_; have BK322 := n2_; have HB := n3_; clear n0_ n1_ n2_ n3_; (try (obtain ⟨hy38_, hz38_⟩ := Kd.R_celln 0 HO_4.out ((rd t327 x7_1) : Int) (of_decide_eq_true zA) (of_decide_eq_true zA))); (try (have HP38 := Kd.R_putg HO_4.out ((rd t327 x7_1) : Int) (wrap64 ((rd y334 (rd t327 x7_1)) - 1)))))); refine store_event (t := 3) (p := 72) (v := ?vo_w39) (w1 := (w37.setCell ⟨go29, ((rd t327 x7_1) : Int).toNat, none⟩ (.int .i64 (wrap64 ((rd y334 (rd t327 x7_1)) - 1))))) ?hg ?ho ?hn ?hr ?_; (case ho => rfl); (case hg => rfl); (case hn => rfl); (case hr => first | (go_simp; done) | (go_simp; rfl)); intro w39 hw; have hg : w37.grownBy w39 (some go29) := (by rw [hw]; exact HP38.2); have hp_ : Kd.R (Kd.int .i64) 3 w39 w.heap.size (fun k_ => some k_ ≠ (.slice (some ad330) t327.length co17 : Value).ownBlock) (.slice (some ⟨go29, 0, none⟩) x4_2.length co33) y338 := (by rw [hw, Ny338.out]; exact HP38.1); clear HP38; have n0_ := Aside0.mk (hp_); have n1_ := Aside0.mk (Kd.R_after (v := (.slice (some ⟨go29, 0, none⟩) x4_2.length co33)) (v1 := (.slice (some ⟨go29, 0, none⟩) x4_2.length co33)) (ok := (fun _ => True)) (zR HO_5.out) hg (.inl rfl)); have n2_ := Aside0.mk (blk_grown (g := gb322) (o := .cells #[.slice A0_0 l0_0.length c0_0, .slice A0_1 l0_1.length c0_1, .int .i64 a0_2] 45 (0, 0)) (zB BK322.out) hg (Kd.R_ne HO_4.out BK322.out (by decide))); have n3_ := Aside0.mk ((by rw [hw]; exact below_set (HB.out) GB29.out : Below w.heap.size w w39)); clear HO_4; clear HO_5; clear BK322; clear HB; have HO_4 := n0_; have HO_5 := n1_; have BK322 := n2_; have HB := n3_; clear n0_ n1_ n2_ n3_; clear hg hw hp_)); try go_wp2_with (first | ((with_reducible refine gate_store (t := 3) (p := 55) rfl ?_); (try (rw [drewN_self wc]; generalize hq_ : World.drewN wc _ = wc; have n0_ := Aside0.mk (Kd.R_at hq_ HO_4.out); have n1_ := Aside0.mk (Kd.R_at hq_ HO_5.out); have n2_ := Aside0.mk (blk_at hq_ BK322.out); have n3_ := Aside0.mk (below_at hq_ HB.out); clear hq_ HO_4 HO_5 BK322 HB; have HO_4 := n0_; have HO_5 := n1_; have BK322 := n2_; have HB := n3_; clear n0_ n1_ n2_ n3_; (try (have HP34 := Kd.R_putg HO_4.out ((rd t327 x7_1) : Int) (wrap64 ((rd x4_2 (rd t327 x7_1)) + 1)))))); refine store_event (t := 3) (p := 55) (v := ?vo_w35) (w1 := (wc.setCell ⟨go29, ((rd t327 x7_1) : Int).toNat, none⟩ (.int .i64 (wrap64 ((rd x4_2 (rd t327 x7_1)) + 1))))) ?hg ?ho ?hn ?hr ?_; (case ho => rfl); (case hg => rfl); (case hn => rfl); (case hr => first | (go_simp; done) | (go_simp; rfl)); intro w35 hw; have hg : wc.grownBy w35 (some go29) := (by rw [hw]; exact HP34.2); have hp_ : Kd.R (Kd.int .i64) 3 w35 w.heap.size (fun k_ => some k_ ≠ (.slice (some ad330) t327.length co17 : Value).ownBlock) (.slice (some ⟨go29, 0, none⟩) x4_2.length co33) y334 := (by rw [hw, Ny334.out]; exact HP34.1); clear HP34; have n0_ := Aside0.mk (hp_); have n1_ := Aside0.mk (Kd.R_after (v := (.slice (some ⟨go29, 0, none⟩) x4_2.length co33)) (v1 := (.slice (some ⟨go29, 0, none⟩) x4_2.length co33)) (ok := (fun _ => True)) (by (with_reducible repeat (first | apply Kd.R_alloc | apply Kd.R_drewN | apply Kd.R_drew)); exact Kd.R_mono HO_5.out (fun _ hk => ⟨trivial, hk⟩)) hg (.inl rfl)); have n2_ := Aside0.mk (blk_grown (g := gb322) (o := .cells #[.slice A0_0 l0_0.length c0_0, .slice A0_1 l0_1.length c0_1, .int .i64 a0_2] 45 (0, 0)) (zB BK322.out) hg (Kd.R_ne HO_4.out BK322.out (by decide))); have n3_ := Aside0.mk ((by rw [hw]; exact below_set (HB.out) GB29.out : Below w.heap.size w w35)); clear HO_4; clear HO_5; clear BK322; clear HB; have HO_4 := n0_; have HO_5 := n1_; have BK322 := n2_; have HB := n3_; clear n0_ n1_ n2_ n3_; clear hg hw hp_; have hcz36_0 : w35.cell? ⟨gb322, 0, none⟩ = some (.slice A0_0 l0_0.length c0_0) := (blk_cell BK322.out 0).trans rfl; have hcz36_1 : w35.cell? ⟨gb322, 1, none⟩ = some (.slice A0_1 l0_1.length c0_1) := (blk_cell BK322.out 1).trans rfl; have hcz36_2 : w35.cell? ⟨gb322, 2, none⟩ = some (.int .i64 a0_2) := (blk_cell BK322.out 2).trans rfl; have hfz36_0 := blk_frozen BK322.out 0; have hfz36_1 := blk_frozen BK322.out 1; have hfz36_2 := blk_frozen BK322.out 2) | (go_at_call 20; refine calls_of_args (args' := #[.agg #[.slice A0_0 l0_0.length c0_0, .slice A0_1 l0_1.length c0_1, .int .i64 a0_2], .slice (some ⟨go29, 0, none⟩) y334.length co33]) (by first | (rw [show y334.length = x4_2.length from (Kd.R_reads' HO_4.out).1.symm] <;> rfl) | rfl) ?_; (with_reducible refine (pledgeref18_Worth.calls kj17 _ _ l0_0 _ _ l0_1 a0_2 _ _ y334 t335 t336 _ ?side1 ?side2 ?side3 ?side4 ?side5 ?side6 A30.out).mono ?_); (case side1 => exact zC HR0_0.out HB.out); (case side2 => exact HC0_0.out); (case side3 => exact zC HR0_1.out HB.out); (case side4 => exact HC0_1.out); (case side5 => repeat (first | exact (Kd.R_reads' HO_4.out).2.2 | (with_reducible refine Kd.C_alloc ?_ _) | (with_reducible refine Kd.C_drewN ?_ _) | (with_reducible refine Kd.C_drew ?_))); (case side6 => rw [show y334.length = x4_2.length from (Kd.R_reads' HO_4.out).1.symm]; exact (Kd.R_reads' HO_4.out).2.1); rintro e w37 ⟨rfl, hb⟩; have n0_ := Aside0.mk (Kd.R_below (zR HO_4.out) hb); have n1_ := Aside0.mk (Kd.R_below (zR HO_5.out) hb); have n2_ := zBB BK322 hb; have n3_ := Aside0.mk (below_step (zH1 HB.out GE322.out) hb); clear HO_4; clear HO_5; clear BK322; clear HB; have HO_4 := n0_; have HO_5 := n1_; have BK322 := n2_; have HB := n3_; clear n0_ n1_ n2_ n3_; (try clear hb); (try clear hb2); (try clear hk); (try clear hi); have p337 : 0 ≤ ((rd t327 x7_1) : Int) := of_decide_eq_true zA; have q337 : (rd t327 x7_1) < (y334.length : Int) := (by have h_ : ((rd t327 x7_1) : Int) < ((x4_2.length : Int) : Int) := of_decide_eq_true zA; first | (have e_ := (Kd.R_reads' HO_4.out).1; omega) | simpa only [Ny334.out, List.length_set] using h_); have ql337 : (((rd t327 x7_1) : Int) < ((x4_2.length : Int) : Int)) = True := eq_true (of_decide_eq_true zA); obtain ⟨ad337, e337, hx337_0⟩ := Kd.at_int (Kd.R_reads' HO_4.out).2.2 (rd t327 x7_1) p337 q337; obtain rfl : (⟨go29, 0, none⟩ : Addr) = ad337 := (by injection e337); (first | simp only [add_plain] at hx337_0 | simp only [add_at] at hx337_0 | simp only [Addr.add, Nat.zero_add] at hx337_0 | skip); replace p337 := eq_true p337; replace q337 := eq_true q337; have p32 : 0 ≤ ((rd t327 x7_1) : Int) := of_decide_eq_true zA; have q32 : ((rd t327 x7_1) : Int) < ((x4_2.length : Int) : Int) := of_decide_eq_true zA; obtain ⟨hx32_0, hf32_0⟩ := Kd.R_celln 0 HO_4.out ((rd t327 x7_1) : Int) p32 q32; replace p32 := eq_true p32; replace q32 := eq_true q32; obtain ⟨hy38_, hz38_⟩ := Kd.R_celln 0 HO_4.out ((rd t327 x7_1) : Int) (of_decide_eq_true zA) (of_decide_eq_true zA); have HP38 := Kd.R_putg HO_4.out ((rd t327 x7_1) : Int) (wrap64 ((rd y334 (rd t327 x7_1)) - 1))) | ((with_reducible refine gate_store (t := 3) (p := 72) rfl ?_); (try (rw [drewN_self w37]; generalize hq_ : World.drewN w37 _ = w37; have n0_ := Aside0.mk (Kd.R_at hq_ HO_4.out); have n1_ := Aside0.mk (Kd.R_at hq_ HO_5.out); have n2_ := Aside0.mk (blk_at hq_ BK322.out); have n3_ := Aside0.mk (below_at hq_ HB.out); clear hq_ HO_4 HO_5 BK322 HB; have HO_4 := n0_; have HO_5 := n1_; have BK322 := n2_; have HB := n3_; clear n0_ n1_ n2_ n3_; (try (obtain ⟨hy38_, hz38_⟩ := Kd.R_celln 0 HO_4.out ((rd t327 x7_1) : Int) (of_decide_eq_true zA) (of_decide_eq_true zA))); (try (have HP38 := Kd.R_putg HO_4.out ((rd t327 x7_1) : Int) (wrap64 ((rd y334 (rd t327 x7_1)) - 1)))))); refine store_event (t := 3) (p := 72) (v := ?vo_w39) (w1 := (w37.setCell ⟨go29, ((rd t327 x7_1) : Int).toNat, none⟩ (.int .i64 (wrap64 ((rd y334 (rd t327 x7_1)) - 1))))) ?hg ?ho ?hn ?hr ?_; (case ho => rfl); (case hg => rfl); (case hn => rfl); (case hr => first | (go_simp; done) | (go_simp; rfl)); intro w39 hw; have hg : w37.grownBy w39 (some go29) := (by rw [hw]; exact HP38.2); have hp_ : Kd.R (Kd.int .i64) 3 w39 w.heap.size (fun k_ => some k_ ≠ (.slice (some ad330) t327.length co17 : Value).ownBlock) (.slice (some ⟨go29, 0, none⟩) x4_2.length co33) y338 := (by rw [hw, Ny338.out]; exact HP38.1); clear HP38; have n0_ := Aside0.mk (hp_); have n1_ := Aside0.mk (Kd.R_after (v := (.slice (some ⟨go29, 0, none⟩) x4_2.length co33)) (v1 := (.slice (some ⟨go29, 0, none⟩) x4_2.length co33)) (ok := (fun _ => True)) (zR HO_5.out) hg (.inl rfl)); have n2_ := Aside0.mk (blk_grown (g := gb322) (o := .cells #[.slice A0_0 l0_0.length c0_0, .slice A0_1 l0_1.length c0_1, .int .i64 a0_2] 45 (0, 0)) (zB BK322.out) hg (Kd.R_ne HO_4.out BK322.out (by decide))); have n3_ := Aside0.mk ((by rw [hw]; exact below_set (HB.out) GB29.out : Below w.heap.size w w39)); clear HO_4; clear HO_5; clear BK322; clear HB; have HO_4 := n0_; have HO_5 := n1_; have BK322 := n2_; have HB := n3_; clear n0_ n1_ n2_ n3_; clear hg hw hp_)))
                go_roundg kj17
                case measure => have := HK1.out; have := HK2.out; have := HJ17.out; omega
                case rel => exact ⟨(y338), (x6_2), (wrap64 (x7_1 + 1)), zS, zS, H', ⟨by have := HK1.out; have := HK2.out; have := HJ17.out; omega⟩, ⟨by (with_reducible repeat (first | apply Kd.R_alloc | apply Kd.R_drewN | apply Kd.R_drew)); exact HO_4.out⟩, ⟨by (with_reducible repeat (first | apply Kd.R_alloc | apply Kd.R_drewN | apply Kd.R_drew)); exact Kd.R_mono HO_5.out (fun _ hk => hk.2)⟩, ⟨zB BK322.out⟩, ⟨zH1 HB.out GE322.out⟩⟩
               ·
                rw [if_neg c31] at H; have c31b0 : decide (t335 ≤ x6_2) = false := decide_eq_false c31; clear c31; have H' := Aside0.mk H; clear H; obtain ⟨Ao40, co40, eo40⟩ := Kd.R_slice HO_4.out; subst eo40; have p333 : 0 ≤ ((rd t327 x7_1) : Int) := of_decide_eq_true zA; have q333 : (rd t327 x7_1) < (x4_2.length : Int) := of_decide_eq_true zA; obtain ⟨ad333, e333, hx333_0⟩ := Kd.at_int (Kd.R_reads' HO_4.out).2.2 (rd t327 x7_1) p333 q333
                cases e333
                replace p333 := eq_true p333; replace q333 := eq_true q333; have p29 : 0 ≤ ((rd t327 x7_1) : Int) := of_decide_eq_true zA; have q29 : ((rd t327 x7_1) : Int) < ((x4_2.length : Int) : Int) := of_decide_eq_true zA; obtain ⟨go29, co29, eo29, gb29, gl29, cl29, HG29⟩ := Kd.R_form HO_4.out (by omega)
                (first | cases eo29 | (injection eo29 with ea_ en_ ec_; (first | subst ea_ | (injection ea_ with ea_; subst ea_)); subst ec_; clear en_))
                have GB29 := Aside0.mk gb29; have GG29 := Aside0.mk HG29; clear gb29 gl29 HG29
                (first | simp only [add_plain] at hx333_0 | skip)
                obtain ⟨hx29_0, hf29_0⟩ := Kd.R_celln 0 HO_4.out ((rd t327 x7_1) : Int) p29 q29; replace p29 := eq_true p29; replace q29 := eq_true q29; have HP41 := Kd.R_putg HO_4.out ((rd t327 x7_1) : Int) (wrap64 ((rd x4_2 (rd t327 x7_1)) + 1))
                go_wp2_with (first | ((with_reducible refine gate_store (t := 3) (p := 55) rfl ?_); (try (rw [drewN_self wc]; generalize hq_ : World.drewN wc _ = wc; have n0_ := Aside0.mk (Kd.R_at hq_ HO_4.out); have n1_ := Aside0.mk (Kd.R_at hq_ HO_5.out); have n2_ := Aside0.mk (blk_at hq_ BK322.out); have n3_ := Aside0.mk (below_at hq_ HB.out); clear hq_ HO_4 HO_5 BK322 HB; have HO_4 := n0_; have HO_5 := n1_; have BK322 := n2_; have HB := n3_; clear n0_ n1_ n2_ n3_; (try (have HP41 := Kd.R_putg HO_4.out ((rd t327 x7_1) : Int) (wrap64 ((rd x4_2 (rd t327 x7_1)) + 1)))))); refine store_event (t := 3) (p := 55) (v := ?vo_w42) (w1 := (wc.setCell ⟨go29, ((rd t327 x7_1) : Int).toNat, none⟩ (.int .i64 (wrap64 ((rd x4_2 (rd t327 x7_1)) + 1))))) ?hg ?ho ?hn ?hr ?_; (case ho => rfl); (case hg => rfl); (case hn => rfl); (case hr => first | (go_simp; done) | (go_simp; rfl)); intro w42 hw; have hg : wc.grownBy w42 (some go29) := (by rw [hw]; exact HP41.2); have hp_ : Kd.R (Kd.int .i64) 3 w42 w.heap.size (fun k_ => some k_ ≠ (.slice (some ad330) t327.length co17 : Value).ownBlock) (.slice (some ⟨go29, 0, none⟩) x4_2.length co40) y334 := (by rw [hw, Ny334.out]; exact HP41.1); clear HP41; have n0_ := Aside0.mk (hp_); have n1_ := Aside0.mk (Kd.R_after (v := (.slice (some ⟨go29, 0, none⟩) x4_2.length co40)) (v1 := (.slice (some ⟨go29, 0, none⟩) x4_2.length co40)) (ok := (fun _ => True)) (by (with_reducible repeat (first | apply Kd.R_alloc | apply Kd.R_drewN | apply Kd.R_drew)); exact Kd.R_mono HO_5.out (fun _ hk => ⟨trivial, hk⟩)) hg (.inl rfl)); have n2_ := Aside0.mk (blk_grown (g := gb322) (o := .cells #[.slice A0_0 l0_0.length c0_0, .slice A0_1 l0_1.length c0_1, .int .i64 a0_2] 45 (0, 0)) (zB BK322.out) hg (Kd.R_ne HO_4.out BK322.out (by decide))); have n3_ := Aside0.mk ((by rw [hw]; exact below_set (HB.out) GB29.out : Below w.heap.size w w42)); clear HO_4; clear HO_5; clear BK322; clear HB; have HO_4 := n0_; have HO_5 := n1_; have BK322 := n2_; have HB := n3_; clear n0_ n1_ n2_ n3_; clear hg hw hp_; have hcz43_0 : w42.cell? ⟨gb322, 0, none⟩ = some (.slice A0_0 l0_0.length c0_0) := (blk_cell BK322.out 0).trans rfl; have hcz43_1 : w42.cell? ⟨gb322, 1, none⟩ = some (.slice A0_1 l0_1.length c0_1) := (blk_cell BK322.out 1).trans rfl; have hcz43_2 : w42.cell? ⟨gb322, 2, none⟩ = some (.int .i64 a0_2) := (blk_cell BK322.out 2).trans rfl; have hfz43_0 := blk_frozen BK322.out 0; have hfz43_1 := blk_frozen BK322.out 1; have hfz43_2 := blk_frozen BK322.out 2) | (go_at_call 20; refine calls_of_args (args' := #[.agg #[.slice A0_0 l0_0.length c0_0, .slice A0_1 l0_1.length c0_1, .int .i64 a0_2], .slice (some ⟨go29, 0, none⟩) y334.length co40]) (by first | (rw [show y334.length = x4_2.length from (Kd.R_reads' HO_4.out).1.symm] <;> rfl) | rfl) ?_; (with_reducible refine (pledgeref18_Worth.calls kj17 _ _ l0_0 _ _ l0_1 a0_2 _ _ y334 t335 t336 _ ?side1 ?side2 ?side3 ?side4 ?side5 ?side6 A30.out).mono ?_); (case side1 => exact zC HR0_0.out HB.out); (case side2 => exact HC0_0.out); (case side3 => exact zC HR0_1.out HB.out); (case side4 => exact HC0_1.out); (case side5 => repeat (first | exact (Kd.R_reads' HO_4.out).2.2 | (with_reducible refine Kd.C_alloc ?_ _) | (with_reducible refine Kd.C_drewN ?_ _) | (with_reducible refine Kd.C_drew ?_))); (case side6 => rw [show y334.length = x4_2.length from (Kd.R_reads' HO_4.out).1.symm]; exact (Kd.R_reads' HO_4.out).2.1); rintro e w44 ⟨rfl, hb⟩; have n0_ := Aside0.mk (Kd.R_below (zR HO_4.out) hb); have n1_ := Aside0.mk (Kd.R_below (zR HO_5.out) hb); have n2_ := zBB BK322 hb; have n3_ := Aside0.mk (below_step (zH1 HB.out GE322.out) hb); clear HO_4; clear HO_5; clear BK322; clear HB; have HO_4 := n0_; have HO_5 := n1_; have BK322 := n2_; have HB := n3_; clear n0_ n1_ n2_ n3_; (try clear hb); (try clear hb2); (try clear hk); (try clear hi)))
                repeat (go_quiet (first | ((with_reducible refine gate_store (t := 3) (p := 55) rfl ?_); (try (rw [drewN_self wc]; generalize hq_ : World.drewN wc _ = wc; have n0_ := Aside0.mk (Kd.R_at hq_ HO_4.out); have n1_ := Aside0.mk (Kd.R_at hq_ HO_5.out); have n2_ := Aside0.mk (blk_at hq_ BK322.out); have n3_ := Aside0.mk (below_at hq_ HB.out); clear hq_ HO_4 HO_5 BK322 HB; have HO_4 := n0_; have HO_5 := n1_; have BK322 := n2_; have HB := n3_; clear n0_ n1_ n2_ n3_; (try (have HP41 := Kd.R_putg HO_4.out ((rd t327 x7_1) : Int) (wrap64 ((rd x4_2 (rd t327 x7_1)) + 1)))))); refine store_event (t := 3) (p := 55) (v := ?vo_w42) (w1 := (wc.setCell ⟨go29, ((rd t327 x7_1) : Int).toNat, none⟩ (.int .i64 (wrap64 ((rd x4_2 (rd t327 x7_1)) + 1))))) ?hg ?ho ?hn ?hr ?_; (case ho => rfl); (case hg => rfl); (case hn => rfl); (case hr => first | (go_simp; done) | (go_simp; rfl)); intro w42 hw; have hg : wc.grownBy w42 (some go29) := (by rw [hw]; exact HP41.2); have hp_ : Kd.R (Kd.int .i64) 3 w42 w.heap.size (fun k_ => some k_ ≠ (.slice (some ad330) t327.length co17 : Value).ownBlock) (.slice (some ⟨go29, 0, none⟩) x4_2.length co40) y334 := (by rw [hw, Ny334.out]; exact HP41.1); clear HP41; have n0_ := Aside0.mk (hp_); have n1_ := Aside0.mk (Kd.R_after (v := (.slice (some ⟨go29, 0, none⟩) x4_2.length co40)) (v1 := (.slice (some ⟨go29, 0, none⟩) x4_2.length co40)) (ok := (fun _ => True)) (by (with_reducible repeat (first | apply Kd.R_alloc | apply Kd.R_drewN | apply Kd.R_drew)); exact Kd.R_mono HO_5.out (fun _ hk => ⟨trivial, hk⟩)) hg (.inl rfl)); have n2_ := Aside0.mk (blk_grown (g := gb322) (o := .cells #[.slice A0_0 l0_0.length c0_0, .slice A0_1 l0_1.length c0_1, .int .i64 a0_2] 45 (0, 0)) (zB BK322.out) hg (Kd.R_ne HO_4.out BK322.out (by decide))); have n3_ := Aside0.mk ((by rw [hw]; exact below_set (HB.out) GB29.out : Below w.heap.size w w42)); clear HO_4; clear HO_5; clear BK322; clear HB; have HO_4 := n0_; have HO_5 := n1_; have BK322 := n2_; have HB := n3_; clear n0_ n1_ n2_ n3_; clear hg hw hp_; have hcz43_0 : w42.cell? ⟨gb322, 0, none⟩ = some (.slice A0_0 l0_0.length c0_0) := (blk_cell BK322.out 0).trans rfl; have hcz43_1 : w42.cell? ⟨gb322, 1, none⟩ = some (.slice A0_1 l0_1.length c0_1) := (blk_cell BK322.out 1).trans rfl; have hcz43_2 : w42.cell? ⟨gb322, 2, none⟩ = some (.int .i64 a0_2) := (blk_cell BK322.out 2).trans rfl; have hfz43_0 := blk_frozen BK322.out 0; have hfz43_1 := blk_frozen BK322.out 1; have hfz43_2 := blk_frozen BK322.out 2) | (go_at_call 20; refine calls_of_args (args' := #[.agg #[.slice A0_0 l0_0.length c0_0, .slice A0_1 l0_1.length c0_1, .int .i64 a0_2], .slice (some ⟨go29, 0, none⟩) y334.length co40]) (by first | (rw [show y334.length = x4_2.length from (Kd.R_reads' HO_4.out).1.symm] <;> rfl) | rfl) ?_; (with_reducible refine (pledgeref18_Worth.calls kj17 _ _ l0_0 _ _ l0_1 a0_2 _ _ y334 t335 t336 _ ?side1 ?side2 ?side3 ?side4 ?side5 ?side6 A30.out).mono ?_); (case side1 => exact zC HR0_0.out HB.out); (case side2 => exact HC0_0.out); (case side3 => exact zC HR0_1.out HB.out); (case side4 => exact HC0_1.out); (case side5 => repeat (first | exact (Kd.R_reads' HO_4.out).2.2 | (with_reducible refine Kd.C_alloc ?_ _) | (with_reducible refine Kd.C_drewN ?_ _) | (with_reducible refine Kd.C_drew ?_))); (case side6 => rw [show y334.length = x4_2.length from (Kd.R_reads' HO_4.out).1.symm]; exact (Kd.R_reads' HO_4.out).2.1); rintro e w44 ⟨rfl, hb⟩; have n0_ := Aside0.mk (Kd.R_below (zR HO_4.out) hb); have n1_ := Aside0.mk (Kd.R_below (zR HO_5.out) hb); have n2_ := zBB BK322 hb; have n3_ := Aside0.mk (below_step (zH1 HB.out GE322.out) hb); clear HO_4; clear HO_5; clear BK322; clear HB; have HO_4 := n0_; have HO_5 := n1_; have BK322 := n2_; have HB := n3_; clear n0_ n1_ n2_ n3_; (try clear hb); (try clear hb2); (try clear hk); (try clear hi))); try go_wp2_with (first | ((with_reducible refine gate_store (t := 3) (p := 55) rfl ?_); (try (rw [drewN_self wc]; generalize hq_ : World.drewN wc _ = wc; have n0_ := Aside0.mk (Kd.R_at hq_ HO_4.out); have n1_ := Aside0.mk (Kd.R_at hq_ HO_5.out); have n2_ := Aside0.mk (blk_at hq_ BK322.out); have n3_ := Aside0.mk (below_at hq_ HB.out); clear hq_ HO_4 HO_5 BK322 HB; have HO_4 := n0_; have HO_5 := n1_; have BK322 := n2_; have HB := n3_; clear n0_ n1_ n2_ n3_; (try (have HP41 := Kd.R_putg HO_4.out ((rd t327 x7_1) : Int) (wrap64 ((rd x4_2 (rd t327 x7_1)) + 1)))))); refine store_event (t := 3) (p := 55) (v := ?vo_w42) (w1 := (wc.setCell ⟨go29, ((rd t327 x7_1) : Int).toNat, none⟩ (.int .i64 (wrap64 ((rd x4_2 (rd t327 x7_1)) + 1))))) ?hg ?ho ?hn ?hr ?_; (case ho => rfl); (case hg => rfl); (case hn => rfl); (case hr => first | (go_simp; done) | (go_simp; rfl)); intro w42 hw; have hg : wc.grownBy w42 (some go29) := (by rw [hw]; exact HP41.2); have hp_ : Kd.R (Kd.int .i64) 3 w42 w.heap.size (fun k_ => some k_ ≠ (.slice (some ad330) t327.length co17 : Value).ownBlock) (.slice (some ⟨go29, 0, none⟩) x4_2.length co40) y334 := (by rw [hw, Ny334.out]; exact HP41.1); clear HP41; have n0_ := Aside0.mk (hp_); have n1_ := Aside0.mk (Kd.R_after (v := (.slice (some ⟨go29, 0, none⟩) x4_2.length co40)) (v1 := (.slice (some ⟨go29, 0, none⟩) x4_2.length co40)) (ok := (fun _ => True)) (by (with_reducible repeat (first | apply Kd.R_alloc | apply Kd.R_drewN | apply Kd.R_drew)); exact Kd.R_mono HO_5.out (fun _ hk => ⟨trivial, hk⟩)) hg (.inl rfl)); have n2_ := Aside0.mk (blk_grown (g := gb322) (o := .cells #[.slice A0_0 l0_0.length c0_0, .slice A0_1 l0_1.length c0_1, .int .i64 a0_2] 45 (0, 0)) (zB BK322.out) hg (Kd.R_ne HO_4.out BK322.out (by decide))); have n3_ := Aside0.mk ((by rw [hw]; exact below_set (HB.out) GB29.out : Below w.heap.size w w42)); clear HO_4; clear HO_5; clear BK322; clear HB; have HO_4 := n0_; have HO_5 := n1_; have BK322 := n2_; have HB := n3_; clear n0_ n1_ n2_ n3_; clear hg hw hp_; have hcz43_0 : w42.cell? ⟨gb322, 0, none⟩ = some (.slice A0_0 l0_0.length c0_0) := (blk_cell BK322.out 0).trans rfl; have hcz43_1 : w42.cell? ⟨gb322, 1, none⟩ = some (.slice A0_1 l0_1.length c0_1) := (blk_cell BK322.out 1).trans rfl; have hcz43_2 : w42.cell? ⟨gb322, 2, none⟩ = some (.int .i64 a0_2) := (blk_cell BK322.out 2).trans rfl; have hfz43_0 := blk_frozen BK322.out 0; have hfz43_1 := blk_frozen BK322.out 1; have hfz43_2 := blk_frozen BK322.out 2) | (go_at_call 20; refine calls_of_args (args' := #[.agg #[.slice A0_0 l0_0.length c0_0, .slice A0_1 l0_1.length c0_1, .int .i64 a0_2], .slice (some ⟨go29, 0, none⟩) y334.length co40]) (by first | (rw [show y334.length = x4_2.length from (Kd.R_reads' HO_4.out).1.symm] <;> rfl) | rfl) ?_; (with_reducible refine (pledgeref18_Worth.calls kj17 _ _ l0_0 _ _ l0_1 a0_2 _ _ y334 t335 t336 _ ?side1 ?side2 ?side3 ?side4 ?side5 ?side6 A30.out).mono ?_); (case side1 => exact zC HR0_0.out HB.out); (case side2 => exact HC0_0.out); (case side3 => exact zC HR0_1.out HB.out); (case side4 => exact HC0_1.out); (case side5 => repeat (first | exact (Kd.R_reads' HO_4.out).2.2 | (with_reducible refine Kd.C_alloc ?_ _) | (with_reducible refine Kd.C_drewN ?_ _) | (with_reducible refine Kd.C_drew ?_))); (case side6 => rw [show y334.length = x4_2.length from (Kd.R_reads' HO_4.out).1.symm]; exact (Kd.R_reads' HO_4.out).2.1); rintro e w44 ⟨rfl, hb⟩; have n0_ := Aside0.mk (Kd.R_below (zR HO_4.out) hb); have n1_ := Aside0.mk (Kd.R_below (zR HO_5.out) hb); have n2_ := zBB BK322 hb; have n3_ := Aside0.mk (below_step (zH1 HB.out GE322.out) hb); clear HO_4; clear HO_5; clear BK322; clear HB; have HO_4 := n0_; have HO_5 := n1_; have BK322 := n2_; have HB := n3_; clear n0_ n1_ n2_ n3_; (try clear hb); (try clear hb2); (try clear hk); (try clear hi))))
                go_roundg kj17
                case measure => have := HK1.out; have := HK2.out; have := HJ17.out; omega
                case rel => exact ⟨(y334), (t335), zS, H', ⟨by have := HK1.out; have := HK2.out; have := HJ17.out; omega⟩, ⟨by (with_reducible repeat (first | apply Kd.R_alloc | apply Kd.R_drewN | apply Kd.R_drew)); exact HO_4.out⟩, ⟨by (with_reducible repeat (first | apply Kd.R_alloc | apply Kd.R_drewN | apply Kd.R_drew)); exact Kd.R_mono HO_5.out (fun _ hk => hk.2)⟩, ⟨zB BK322.out⟩, ⟨zH1 HB.out GE322.out⟩⟩
              ·
               rw [if_neg c28] at H; exact absurd H (by simp)
             ·
              rw [if_neg c27] at H; exact absurd H (by simp)
            ·
             replace c26 := Bool.eq_false_iff.mpr c26; subst c26; have H1 : (pledgeref18_Greedy.l0 kj17 x4_2 t327 x6_2 (wrap64 (x7_1 + 1)) l0_0 l0_1 a0_2) = some (r1, r2) := by rw [if_neg (show ¬ (false = true) by decide)] at H; exact H
             clear H; have H := H1; clear H1; have H' := Aside0.mk H; clear H
             go_wp2
             repeat (go_quiet (fail); try go_wp2)
             go_roundg kj17
             case measure => have := HK1.out; have := HK2.out; have := HJ17.out; omega
             case rel => exact ⟨(x4_2), (x6_2), (wrap64 (x7_1 + 1)), zS, zS, H', ⟨by have := HK1.out; have := HK2.out; have := HJ17.out; omega⟩, ⟨by (with_reducible repeat (first | apply Kd.R_alloc | apply Kd.R_drewN | apply Kd.R_drew)); exact HO_4.out⟩, ⟨by (with_reducible repeat (first | apply Kd.R_alloc | apply Kd.R_drewN | apply Kd.R_drew)); exact HO_5.out⟩, ⟨zB BK322.out⟩, ⟨zH1 HB.out GE322.out⟩⟩
       ·
        rw [if_neg c16] at H; exact absurd H (by simp)
      ·
       rw [if_neg c15] at H; have c15b0 : decide (x7_1 < (t327.length : Int)) = false := decide_eq_false c15; clear c15; by_cases c45 : x6_1 < a0_2
       ·
        rw [if_pos c45] at H; have c45b0 : decide (x6_1 < a0_2) = true := decide_eq_true c45; clear c45; simp only [Option.some.injEq, Prod.mk.injEq] at H; obtain ⟨rfl, rfl⟩ := H; obtain ⟨Ao46, co46, eo46⟩ := Kd.R_slice HO_5.out; subst eo46; have hcz47_0 : wr.cell? ⟨gb322, 0, none⟩ = some (.slice A0_0 l0_0.length c0_0) := (blk_cell BK322.out 0).trans rfl; have hcz47_1 : wr.cell? ⟨gb322, 1, none⟩ = some (.slice A0_1 l0_1.length c0_1) := (blk_cell BK322.out 1).trans rfl; have hcz47_2 : wr.cell? ⟨gb322, 2, none⟩ = some (.int .i64 a0_2) := (blk_cell BK322.out 2).trans rfl; have hfz47_0 := blk_frozen BK322.out 0; have hfz47_1 := blk_frozen BK322.out 1; have hfz47_2 := blk_frozen BK322.out 2
        go_wp2
        repeat (go_quiet (fail); try go_wp2)
        go_ret2
        exact ⟨_, zE, by first | exact Kd.R_nil _ _ _ _ _ | exact Kd.N_nil _ _ _ _ _ | exact Kd.V_nil _ _ _ _ _ | exact Kd.Q_nil _ _ _ _ _ | exact Kd.S_nil _ _ _ _ _, zH1 HB.out GE322.out⟩
       ·
        rw [if_neg c45] at H; have c45b0 : decide (x6_1 < a0_2) = false := decide_eq_false c45; clear c45; simp only [Option.some.injEq, Prod.mk.injEq] at H; obtain ⟨rfl, rfl⟩ := H; obtain ⟨Ao48, co48, eo48⟩ := Kd.R_slice HO_5.out; subst eo48; have hcz49_0 : wr.cell? ⟨gb322, 0, none⟩ = some (.slice A0_0 l0_0.length c0_0) := (blk_cell BK322.out 0).trans rfl; have hcz49_1 : wr.cell? ⟨gb322, 1, none⟩ = some (.slice A0_1 l0_1.length c0_1) := (blk_cell BK322.out 1).trans rfl; have hcz49_2 : wr.cell? ⟨gb322, 2, none⟩ = some (.int .i64 a0_2) := (blk_cell BK322.out 2).trans rfl; have hfz49_0 := blk_frozen BK322.out 0; have hfz49_1 := blk_frozen BK322.out 1; have hfz49_2 := blk_frozen BK322.out 2
        go_wp2
        repeat (go_quiet (fail); try go_wp2)
        go_ret2
        exact ⟨_, zE, by (with_reducible repeat (first | apply Kd.R_alloc | apply Kd.R_drewN | apply Kd.R_drew)); exact Kd.R_mono HO_4.out (fun _ hk => trivial), zH1 HB.out GE322.out⟩
   ·
    rw [if_neg c5] at H; exact absurd H (by simp)
  ·
   rw [if_neg c4] at H; exact absurd H (by simp)
 ·
  rw [if_neg c3] at H; have c3b0 : (t323 == 0) = false := beq_eq_false_iff_ne.mpr c3; have c3b1 : (t323 != 0) = true := bne_iff_ne.mpr c3; simp only [Option.some.injEq, Prod.mk.injEq] at H; obtain ⟨rfl, rfl⟩ := H
  go_enter Tryd.func25, Tryd.ntmps25
  go_wp2_with (first | ((with_reducible refine gate_dst (N := 1) rfl ?_); refine box_event ?hg (N := 1) ?hd (cs := #[.slice A0_0 l0_0.length c0_0, .slice A0_1 l0_1.length c0_1, .int .i64 a0_2]) (t := 45) ?hr ?_; (case hd => rfl); (case hg => rfl); (case hr => first | (go_simp; done) | (go_simp; rfl)); intro gb322 hg w50 hbox hb; have n0_ := Aside0.mk (below_step (zH HB.out) hb); have n1_ := Aside0.mk (hbox); have n2_ := Aside0.mk (zg hg (below_size (zH HB.out)) : w.heap.size ≤ gb322); have n3_ := Aside0.mk (zg hg (below_size (zH HB.out)) : w.heap.size ≤ gb322); clear HB; have HB := n0_; have BK322 := n1_; have GW322 := n2_; have GE322 := n3_; clear n0_ n1_ n2_ n3_; clear hb hbox hg; have hcz51_0 : w50.cell? ⟨gb322, 0, none⟩ = some (.slice A0_0 l0_0.length c0_0) := (blk_cell BK322.out 0).trans rfl; have hcz51_1 : w50.cell? ⟨gb322, 1, none⟩ = some (.slice A0_1 l0_1.length c0_1) := (blk_cell BK322.out 1).trans rfl; have hcz51_2 : w50.cell? ⟨gb322, 2, none⟩ = some (.int .i64 a0_2) := (blk_cell BK322.out 2).trans rfl; have hfz51_0 := blk_frozen BK322.out 0; have hfz51_1 := blk_frozen BK322.out 1; have hfz51_2 := blk_frozen BK322.out 2) | (go_at_call 19; (with_reducible refine (pledgeref18_Valid.calls k _ _ l0_0 _ _ l0_1 a0_2 t323 _ ?side1 ?side2 ?side3 ?side4 A2.out).mono ?_); (case side1 => exact zC HR0_0.out HB.out); (case side2 => exact HC0_0.out); (case side3 => exact zC HR0_1.out HB.out); (case side4 => exact HC0_1.out); rintro e w52 ⟨rfl, hb⟩; have n0_ := zBB BK322 hb; have n1_ := Aside0.mk (below_step (zH1 HB.out GE322.out) hb); clear BK322; clear HB; have BK322 := n0_; have HB := n1_; clear n0_ n1_; (try clear hb); (try clear hb2); (try clear hk); (try clear hi)))
  repeat (go_quiet (first | ((with_reducible refine gate_dst (N := 1) rfl ?_); refine box_event ?hg (N := 1) ?hd (cs := #[.slice A0_0 l0_0.length c0_0, .slice A0_1 l0_1.length c0_1, .int .i64 a0_2]) (t := 45) ?hr ?_; (case hd => rfl); (case hg => rfl); (case hr => first | (go_simp; done) | (go_simp; rfl)); intro gb322 hg w50 hbox hb; have n0_ := Aside0.mk (below_step (zH HB.out) hb); have n1_ := Aside0.mk (hbox); have n2_ := Aside0.mk (zg hg (below_size (zH HB.out)) : w.heap.size ≤ gb322); have n3_ := Aside0.mk (zg hg (below_size (zH HB.out)) : w.heap.size ≤ gb322); clear HB; have HB := n0_; have BK322 := n1_; have GW322 := n2_; have GE322 := n3_; clear n0_ n1_ n2_ n3_; clear hb hbox hg; have hcz51_0 : w50.cell? ⟨gb322, 0, none⟩ = some (.slice A0_0 l0_0.length c0_0) := (blk_cell BK322.out 0).trans rfl; have hcz51_1 : w50.cell? ⟨gb322, 1, none⟩ = some (.slice A0_1 l0_1.length c0_1) := (blk_cell BK322.out 1).trans rfl; have hcz51_2 : w50.cell? ⟨gb322, 2, none⟩ = some (.int .i64 a0_2) := (blk_cell BK322.out 2).trans rfl; have hfz51_0 := blk_frozen BK322.out 0; have hfz51_1 := blk_frozen BK322.out 1; have hfz51_2 := blk_frozen BK322.out 2) | (go_at_call 19; (try simp only [i64_w, i32_w]); (with_reducible refine (pledgeref18_Valid.calls k _ _ l0_0 _ _ l0_1 a0_2 t323 _ ?side1 ?side2 ?side3 ?side4 A2.out).mono ?_); (case side1 => exact zC HR0_0.out HB.out); (case side2 => exact HC0_0.out); (case side3 => exact zC HR0_1.out HB.out); (case side4 => exact HC0_1.out); rintro e w52 ⟨rfl, hb⟩; have n0_ := zBB BK322 hb; have n1_ := Aside0.mk (below_step (zH1 HB.out GE322.out) hb); clear BK322; clear HB; have BK322 := n0_; have HB := n1_; clear n0_ n1_; (try clear hb); (try clear hb2); (try clear hk); (try clear hi))); try go_wp2_with (first | ((with_reducible refine gate_dst (N := 1) rfl ?_); refine box_event ?hg (N := 1) ?hd (cs := #[.slice A0_0 l0_0.length c0_0, .slice A0_1 l0_1.length c0_1, .int .i64 a0_2]) (t := 45) ?hr ?_; (case hd => rfl); (case hg => rfl); (case hr => first | (go_simp; done) | (go_simp; rfl)); intro gb322 hg w50 hbox hb; have n0_ := Aside0.mk (below_step (zH HB.out) hb); have n1_ := Aside0.mk (hbox); have n2_ := Aside0.mk (zg hg (below_size (zH HB.out)) : w.heap.size ≤ gb322); have n3_ := Aside0.mk (zg hg (below_size (zH HB.out)) : w.heap.size ≤ gb322); clear HB; have HB := n0_; have BK322 := n1_; have GW322 := n2_; have GE322 := n3_; clear n0_ n1_ n2_ n3_; clear hb hbox hg; have hcz51_0 : w50.cell? ⟨gb322, 0, none⟩ = some (.slice A0_0 l0_0.length c0_0) := (blk_cell BK322.out 0).trans rfl; have hcz51_1 : w50.cell? ⟨gb322, 1, none⟩ = some (.slice A0_1 l0_1.length c0_1) := (blk_cell BK322.out 1).trans rfl; have hcz51_2 : w50.cell? ⟨gb322, 2, none⟩ = some (.int .i64 a0_2) := (blk_cell BK322.out 2).trans rfl; have hfz51_0 := blk_frozen BK322.out 0; have hfz51_1 := blk_frozen BK322.out 1; have hfz51_2 := blk_frozen BK322.out 2) | (go_at_call 19; (try simp only [i64_w, i32_w]); (with_reducible refine (pledgeref18_Valid.calls k _ _ l0_0 _ _ l0_1 a0_2 t323 _ ?side1 ?side2 ?side3 ?side4 A2.out).mono ?_); (case side1 => exact zC HR0_0.out HB.out); (case side2 => exact HC0_0.out); (case side3 => exact zC HR0_1.out HB.out); (case side4 => exact HC0_1.out); rintro e w52 ⟨rfl, hb⟩; have n0_ := zBB BK322 hb; have n1_ := Aside0.mk (below_step (zH1 HB.out GE322.out) hb); clear BK322; clear HB; have BK322 := n0_; have HB := n1_; clear n0_ n1_; (try clear hb); (try clear hb2); (try clear hk); (try clear hi))))
  go_ret2
  exact ⟨_, zE, by first | exact Kd.R_nil _ _ _ _ _ | exact Kd.N_nil _ _ _ _ _ | exact Kd.V_nil _ _ _ _ _ | exact Kd.Q_nil _ _ _ _ _ | exact Kd.S_nil _ _ _ _ _, zH1 HB.out GE322.out⟩

/-! ### pledgeref_SameInts: function 26 -/
def pledgeref_SameInts.l0 : Nat → List Int → List Int → Int → Option (Bool)
  | 0, _, _, _ => none
  | k + 1, x0, x1, x5 => if x5 < (x0.length : Int) then (if 0 ≤ x5 then (if x5 < (x1.length : Int) then (if ((rd x0 x5) = (rd x1 x5)) then (pledgeref_SameInts.l0 k x0 x1 (wrap64 (x5 + 1))) else (some false)) else (none)) else (none)) else (some true)
def pledgeref_SameInts.f (k : Nat) (l0 : List Int) (l1 : List Int) : Option (Bool) := if (l0.length : Int) = (l1.length : Int) then (pledgeref_SameInts.l0 k l0 l1 0) else (some false)
theorem pledgeref_SameInts.mono_l : ∀ k, (∀ y0 y1 y2, LeO (pledgeref_SameInts.l0 k y0 y1 y2) (pledgeref_SameInts.l0 (k + 1) y0 y1 y2))
  | 0 => fun _ _ _ r h => by simp [pledgeref_SameInts.l0] at h
  | k + 1 => by
    have ih0 := pledgeref_SameInts.mono_l k
    · intro y0 y1 y2
      unfold pledgeref_SameInts.l0
      repeat' first
      | (with_reducible exact ih0 _ _ _)
      | (with_reducible exact LeO.refl _)
      | (with_reducible exact LeO.none _)
      | (with_reducible refine LeO.ite ?_ ?_)
      | (with_reducible refine LeO.bind ?_ (fun _ => ?_))
      | exact ih0 _ _ _
      | exact LeO.none _
      | refine LeO.ite ?_ ?_
      | refine LeO.bind ?_ (fun _ => ?_)
theorem pledgeref_SameInts.mono : ∀ a0 a1 k, LeO (pledgeref_SameInts.f k a0 a1) (pledgeref_SameInts.f (k + 1) a0 a1) := by
  intro a0 a1 k; have ih0 := pledgeref_SameInts.mono_l k; unfold pledgeref_SameInts.f
  repeat' first
      | (with_reducible exact ih0 _ _ _)
      | (with_reducible exact LeO.refl _)
      | (with_reducible exact LeO.none _)
      | (with_reducible refine LeO.ite ?_ ?_)
      | (with_reducible refine LeO.bind ?_ (fun _ => ?_))
      | exact ih0 _ _ _
      | exact LeO.none _
      | refine LeO.ite ?_ ?_
      | refine LeO.bind ?_ (fun _ => ?_)
set_option maxHeartbeats 8000000 in
set_option maxRecDepth 100000 in
theorem pledgeref_SameInts.calls [Inhabited (Int → Addr)] (k : Nat) (A0 : Option Addr) (c0 : Nat) (l0 : List Int) (A1 : Option Addr) (c1 : Nat) (l1 : List Int) (r : Bool) (w : World) (hr0 : Kd.C (Kd.int .i64) w A0 l0.length l0) (hc0 : l0.length ≤ c0) (hr1 : Kd.C (Kd.int .i64) w A1 l1.length l1) (hc1 : l1.length ≤ c1) (h : pledgeref_SameInts.f k l0 l1 = some r) :
    Calls Tryd.prog 26 #[.slice A0 l0.length c0, .slice A1 l1.length c1] w fun e w' => e = .returned (.bool r) ∧ Drawn0 w w' := by
  have HR0 := Aside0.mk hr0; have HC0 := Aside0.mk hc0; clear hr0 hc0; have HR1 := Aside0.mk hr1; have HC1 := Aside0.mk hc1; clear hr1 hc1; have H : (if (l0.length : Int) = (l1.length : Int) then (pledgeref_SameInts.l0 k l0 l1 0) else (some false)) = some r := h; clear h; by_cases c3 : (l0.length : Int) = (l1.length : Int)
  · rw [if_pos c3] at H
    have c3b0 : ((l0.length : Int) == (l1.length : Int)) = true := beq_iff_eq.mpr c3; have c3b1 : ((l0.length : Int) != (l1.length : Int)) = false := bne_eq_false_iff_eq.mpr c3; have c3b2 : (l0.length == l1.length) = true := by first | simpa using c3 | (simp at c3 ⊢; omega)
    clear c3; have H' := Aside0.mk H; clear H
    go_enter Tryd.func26, Tryd.ntmps26
    go_wp2
    repeat (go_quiet (fail); try go_wp2)
    go_loopg [5] k (fun kq v5 w' => ∃ (x5_1 : Int), v5 = .int .i64 x5_1 ∧ Aside0 (pledgeref_SameInts.l0 kq l0 l1 x5_1 = some r) ∧ Aside0 (kq ≤ k) ∧ Drawn0 w w')
    case atStart => exact ⟨(0), zS, H', ⟨Nat.le_refl _⟩, zD⟩
    case round =>
      clear H'
      try clear c1
      try clear c2
      try clear p2
      try clear c3
      try clear c3b0
      try clear c3b1
      try clear c3b2
      obtain ⟨x5_1, rfl, HA, HK1, ⟨m1, rfl⟩⟩ := hrel
      cases gk with
      | zero => exact absurd HA.out (by simp [pledgeref_SameInts.l0])
      | succ k1 =>
        have H := HA.out; clear HA; simp only [pledgeref_SameInts.l0] at H; by_cases c4 : x5_1 < (l0.length : Int)
        · rw [if_pos c4] at H
          have c4b0 : decide (x5_1 < (l0.length : Int)) = true := decide_eq_true c4; clear c4; by_cases c5 : 0 ≤ x5_1
          · rw [if_pos c5] at H
            have c5b0 : decide (0 ≤ x5_1) = true := decide_eq_true c5; clear c5; by_cases c6 : x5_1 < (l1.length : Int)
            · rw [if_pos c6] at H
              have c6b0 : decide (x5_1 < (l1.length : Int)) = true := decide_eq_true c6; clear c6; by_cases c7 : ((rd l0 x5_1) = (rd l1 x5_1))
              · rw [if_pos c7] at H
                have c7b0 : ((rd l0 x5_1) == (rd l1 x5_1)) = true := beq_iff_eq.mpr c7; have c7b1 : ((rd l0 x5_1) != (rd l1 x5_1)) = false := bne_eq_false_iff_eq.mpr c7; clear c7; have H' := Aside0.mk H; clear H; have p339 : 0 ≤ (x5_1 : Int) := of_decide_eq_true zA; have q339 : x5_1 < (l0.length : Int) := of_decide_eq_true zA; obtain ⟨ad339, e339, hx339_0⟩ := Kd.at_int HR0.out x5_1 p339 q339
                cases e339
                replace p339 := eq_true p339; replace q339 := eq_true q339; have p340 : 0 ≤ (x5_1 : Int) := of_decide_eq_true zA; have q340 : x5_1 < (l1.length : Int) := of_decide_eq_true zA; obtain ⟨ad340, e340, hx340_0⟩ := Kd.at_int HR1.out x5_1 p340 q340
                cases e340
                replace p340 := eq_true p340; replace q340 := eq_true q340
                go_wp2
                repeat (go_quiet (fail); try go_wp2)
                go_roundg k1
                case measure => have := HK1.out; omega
                case rel => exact ⟨(wrap64 (x5_1 + 1)), zS, H', ⟨by have := HK1.out; omega⟩, zD⟩
              · rw [if_neg c7] at H
                have c7b0 : ((rd l0 x5_1) == (rd l1 x5_1)) = false := beq_eq_false_iff_ne.mpr c7; have c7b1 : ((rd l0 x5_1) != (rd l1 x5_1)) = true := bne_iff_ne.mpr c7; obtain rfl := Option.some.inj H; have p339 : 0 ≤ (x5_1 : Int) := of_decide_eq_true zA; have q339 : x5_1 < (l0.length : Int) := of_decide_eq_true zA; obtain ⟨ad339, e339, hx339_0⟩ := Kd.at_int HR0.out x5_1 p339 q339
                cases e339
                replace p339 := eq_true p339; replace q339 := eq_true q339; have p340 : 0 ≤ (x5_1 : Int) := of_decide_eq_true zA; have q340 : x5_1 < (l1.length : Int) := of_decide_eq_true zA; obtain ⟨ad340, e340, hx340_0⟩ := Kd.at_int HR1.out x5_1 p340 q340
                cases e340
                replace p340 := eq_true p340; replace q340 := eq_true q340
                go_wp2
                repeat (go_quiet (fail); try go_wp2)
                go_ret
                exact ⟨zF, zD⟩
            · rw [if_neg c6] at H
              exact absurd H (by simp)
          · rw [if_neg c5] at H
            exact absurd H (by simp)
        · rw [if_neg c4] at H
          have c4b0 : decide (x5_1 < (l0.length : Int)) = false := decide_eq_false c4; clear c4; obtain rfl := Option.some.inj H
          go_wp2
          repeat (go_quiet (fail); try go_wp2)
          go_ret
          exact ⟨zF, zD⟩
  · rw [if_neg c3] at H
    have c3b0 : ((l0.length : Int) == (l1.length : Int)) = false := beq_eq_false_iff_ne.mpr c3; have c3b1 : ((l0.length : Int) != (l1.length : Int)) = true := bne_iff_ne.mpr c3; have c3b2 : (l0.length == l1.length) = false := by first | simpa using c3 | (simp at c3 ⊢; omega)
    obtain rfl := Option.some.inj H
    go_enter Tryd.func26, Tryd.ntmps26
    go_wp2
    repeat (go_quiet (fail); try go_wp2)
    go_ret
    exact ⟨zF, zD⟩

end Go.Proofs.YtlalofmilhakjaaDoor.ELotsSay
