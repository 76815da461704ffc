/- The functions that the law comes to, as plain functions, and for each a proof that the Go code comes to just these answers. Written by a program of this claim. Conditions: each theorem bears its own. -/
import Derived.Test.YtlalofmilhakjaaDoorELotsSayx0
import Derived.Test.YtlalofmilhakjaaDoorELotsSayx1
import Derived.Test.YtlalofmilhakjaaDoorELotsSayx2
import Derived.Test.YtlalofmilhakjaaDoorELotsSayx5
namespace Go.Proofs.YtlalofmilhakjaaDoor.ELotsSay
open Go.RowKit Go.Proofs.YtlalofmilhakjaaDoorW.PrintWords Go.Proofs.YtlalofmilhakjaaDoorW.PrintLast Go.Proofs.YtlalofmilhakjaaDoorW.PrintMore Go.Proofs.YtlalofmilhakjaaDoorW.PrintOpen
attribute [local go_sem] max2_int min2_int max_two min_two max_three min_three max_four min_four   -- for this text's walks alone
set_option linter.unusedVariables false
set_option linter.unusedSimpArgs false

/-! ### lots_fits: function 36 -/
mutual
def lots_fits.j0 : Nat → List Int → Bool → List (S25) → List Int → Int → Option (Bool)
 | 0, _, _, _, _, _ => none
 | k + 1, x1, x17, x162000, x162001, x162002 => if x17 = true then (some false) else (lots_fits.l0 k x1 (x1.length : Int) 0 x162000 x162001 x162002)
def lots_fits.l0 : Nat → List Int → Int → Int → List (S25) → List Int → Int → Option (Bool)
 | 0, _, _, _, _, _, _ => none
 | k + 1, x18, x19, x20, x162000, x162001, x162002 => if x20 < x19 then (if 0 ≤ x20 then (if x20 < (x18.length : Int) then (if (rd x18 x20) < 0 then (some false) else (if x20 < (x162000.length : Int) then (if (rd x18 x20) > ((rd_T25 x162000 x20).f0) then (some false) else (lots_fits.l0 k x18 x19 (wrap64 (x20 + 1)) x162000 x162001 x162002)) else (none))) else (none)) else (none)) else (some true)
end
def lots_fits.f (k : Nat) (l0_0 : List (S25)) (l0_1 : List Int) (a0_2 : Int) (l1 : List Int) : Option (Bool) := (lots_Valid.f l0_0 l0_1 a0_2).bind fun t162 => (if t162.isNone = true then (lots_fits.j0 k l1 ((l1.length : Int) != (l0_0.length : Int)) l0_0 l0_1 a0_2) else (lots_fits.j0 k l1 true l0_0 l0_1 a0_2))
theorem lots_fits.mono_l : ∀ k, (∀ y0 y1 y2 y3 y4, LeO (lots_fits.j0 k y0 y1 y2 y3 y4) (lots_fits.j0 (k + 1) y0 y1 y2 y3 y4)) ∧ (∀ y0 y1 y2 y3 y4 y5, LeO (lots_fits.l0 k y0 y1 y2 y3 y4 y5) (lots_fits.l0 (k + 1) y0 y1 y2 y3 y4 y5))
 | 0 => ⟨fun _ _ _ _ _ r h => by simp [lots_fits.j0] at h, fun _ _ _ _ _ _ r h => by simp [lots_fits.l0] at h⟩
 | k + 1 => by
  obtain ⟨ih0, ih1⟩ := lots_fits.mono_l k; refine ⟨?_, ?_⟩
  ·
   intro y0 y1 y2 y3 y4; unfold lots_fits.j0
   repeat' first
   | (with_reducible exact ih0 _ _ _ _ _)
   | (with_reducible exact ih1 _ _ _ _ _ _)
   | (with_reducible exact LeO.refl _)
   | (with_reducible exact LeO.none _)
   | (with_reducible refine LeO.ite ?_ ?_)
   | (with_reducible refine LeO.bind ?_ (fun _ => ?_))
   | exact ih0 _ _ _ _ _
   | exact ih1 _ _ _ _ _ _
   | exact LeO.none _
   | refine LeO.ite ?_ ?_
   | refine LeO.bind ?_ (fun _ => ?_)
  ·
   intro y0 y1 y2 y3 y4 y5; unfold lots_fits.l0
   repeat' first
   | (with_reducible exact ih0 _ _ _ _ _)
   | (with_reducible exact ih1 _ _ _ _ _ _)
   | (with_reducible exact LeO.refl _)
   | (with_reducible exact LeO.none _)
   | (with_reducible refine LeO.ite ?_ ?_)
   | (with_reducible refine LeO.bind ?_ (fun _ => ?_))
   | exact ih0 _ _ _ _ _
   | exact ih1 _ _ _ _ _ _
   | exact LeO.none _
   | refine LeO.ite ?_ ?_
   | refine LeO.bind ?_ (fun _ => ?_)
theorem lots_fits.mono : ∀ a0 a1 a2 a3 k, LeO (lots_fits.f k a0 a1 a2 a3) (lots_fits.f (k + 1) a0 a1 a2 a3) := by
 intro a0 a1 a2 a3 k; obtain ⟨ih0, ih1⟩ := lots_fits.mono_l k; unfold lots_fits.f
 repeat' first
   | (with_reducible exact ih0 _ _ _ _ _)
   | (with_reducible exact ih1 _ _ _ _ _ _)
   | (with_reducible exact LeO.refl _)
   | (with_reducible exact LeO.none _)
   | (with_reducible refine LeO.ite ?_ ?_)
   | (with_reducible refine LeO.bind ?_ (fun _ => ?_))
   | exact ih0 _ _ _ _ _
   | exact ih1 _ _ _ _ _ _
   | exact LeO.none _
   | refine LeO.ite ?_ ?_
   | refine LeO.bind ?_ (fun _ => ?_)
set_option maxHeartbeats 8000000 in
set_option maxRecDepth 100000 in
theorem lots_fits.calls [Inhabited (Int → Addr)] (k : Nat) (A0_0 : Option Addr) (c0_0 : Nat) (l0_0 : List (S25)) (A0_1 : Option Addr) (c0_1 : Nat) (l0_1 : List Int) (a0_2 : Int) (A1 : Option Addr) (c1 : Nat) (l1 : List Int) (r : Bool) (w : World) (hG : GlobOK w) (hr0_0 : Kd.C k25 w A0_0 l0_0.length l0_0) (hc0_0 : l0_0.length ≤ c0_0) (hr0_1 : Kd.C (Kd.int .i64) w A0_1 l0_1.length l0_1) (hc0_1 : l0_1.length ≤ c0_1) (hr1 : Kd.C (Kd.int .i64) w A1 l1.length l1) (hc1 : l1.length ≤ c1) (h : lots_fits.f k l0_0 l0_1 a0_2 l1 = some r) :
  Calls Tryd.prog 36 #[.agg #[.slice A0_0 l0_0.length c0_0, .slice A0_1 l0_1.length c0_1, .int .i64 a0_2], .slice A1 l1.length c1] w fun e w' => e = .returned (.bool r) ∧ Below w.heap.size w w' := by
 have hu29 := Tryd.underlying29; have hu36 := Tryd.underlying36; have hu104 := Tryd.underlying104; have HG := Aside0.mk hG; clear hG; have HR0_0 := Aside0.mk hr0_0; have HC0_0 := Aside0.mk hc0_0; clear hr0_0 hc0_0; have HR0_1 := Aside0.mk hr0_1; have HC0_1 := Aside0.mk hc0_1; clear hr0_1 hc0_1; have HR1 := Aside0.mk hr1; have HC1 := Aside0.mk hc1; clear hr1 hc1; have HB := Aside0.mk (Below.refl w.heap.size w); have H : ((lots_Valid.f l0_0 l0_1 a0_2).bind fun t162 => (if t162.isNone = true then (lots_fits.j0 k l1 ((l1.length : Int) != (l0_0.length : Int)) l0_0 l0_1 a0_2) else (lots_fits.j0 k l1 true l0_0 l0_1 a0_2))) = some r := h; clear h; have HC3 := Aside0.mk H; clear H
 go_enter Tryd.func36, Tryd.ntmps36
 go_upto_region 1 with (first | ((with_reducible refine gate_dst (N := 2) rfl ?_); (try (refine gate_guard (by rfl) ?_; dsimp only)); refine box_event ?hg (N := 2) ?hd (cs := #[.slice A0_0 l0_0.length c0_0, .slice A0_1 l0_1.length c0_1, .int .i64 a0_2]) (t := 29) ?hr ?_; (case hd => rfl); (case hg => rfl); (case hr => first | (go_simp; done) | (go_simp; rfl)); intro gb161 hg w4 hbox hb; have n0_ := Aside0.mk (below_step (zH HB.out) hb); have n1_ := Aside0.mk (hbox); have n2_ := Aside0.mk (zg hg (below_size (zH HB.out)) : w.heap.size ≤ gb161); have n3_ := Aside0.mk (zg hg (below_size (zH HB.out)) : w.heap.size ≤ gb161); clear HB; have HB := n0_; have BK161 := n1_; have GW161 := n2_; have GE161 := n3_; clear n0_ n1_ n2_ n3_; clear hb hbox hg))
 (try simp only [Act.put, zq1, zq2, zq3])
 go_cut [17] (fun v17 wc => ∃ (kq : Nat) (x17_2 : Bool), v17 = .bool x17_2 ∧ Aside0 (lots_fits.j0 kq l1 x17_2 l0_0 l0_1 a0_2 = some r) ∧ Aside0 (kq ≤ k) ∧ Aside0 (wc.heap[gb161]? = some (.cells #[(.slice A0_0 l0_0.length c0_0), (.slice A0_1 l0_1.length c0_1), .int .i64 a0_2] 29 (0, 0))) ∧ Aside0 (Below w.heap.size w wc))
 case first =>
  have H := HC3.out; clear HC3; replace H := Option.bind_eq_some_iff.mp H; obtain ⟨t162, A50, H⟩ := H; replace H : (if t162.isNone = true then (lots_fits.j0 k l1 ((l1.length : Int) != (l0_0.length : Int)) l0_0 l0_1 a0_2) else (lots_fits.j0 k l1 true l0_0 l0_1 a0_2)) = some r := H; have A5 := Aside0.mk A50; clear A50
  rcases t162 with _ | q163
  ·
   have H1 : (lots_fits.j0 k l1 ((l1.length : Int) != (l0_0.length : Int)) l0_0 l0_1 a0_2) = some r := by rw [if_pos (show (none : Option Int).isNone = true by rfl)] at H; exact H
   clear H; have H := H1; clear H1
   try simp only [errW_none, errW_some]
   have H' := Aside0.mk H; clear H; have hcz6_0 : w4.cell? ⟨gb161, 0, none⟩ = some (.slice A0_0 l0_0.length c0_0) := (blk_cell BK161.out 0).trans rfl; have hcz6_1 : w4.cell? ⟨gb161, 1, none⟩ = some (.slice A0_1 l0_1.length c0_1) := (blk_cell BK161.out 1).trans rfl; have hcz6_2 : w4.cell? ⟨gb161, 2, none⟩ = some (.int .i64 a0_2) := (blk_cell BK161.out 2).trans rfl; have hfz6_0 := blk_frozen BK161.out 0; have hfz6_1 := blk_frozen BK161.out 1; have hfz6_2 := blk_frozen BK161.out 2
   go_wp2_with (first | ((with_reducible refine gate_callee (f := 12) rfl ?_); refine goesL_ (some 8) rfl rfl Tryd.func12 (by kernel_rfl) rfl #[.agg #[.slice A0_0 l0_0.length c0_0, .slice A0_1 l0_1.length c0_1, .int .i64 a0_2]] rfl zM ?_; (with_reducible refine (lots_Valid.calls _ _ l0_0 _ _ l0_1 a0_2 none _ ?side1 ?side2 ?side3 ?side4 ?side5 A5.out).mono ?_); (case side1 => exact GlobOK.below HG.out (zH1 HB.out GE161.out)); (case side2 => exact zC HR0_0.out HB.out); (case side3 => exact HC0_0.out); (case side4 => exact zC HR0_1.out HB.out); (case side5 => exact HC0_1.out); rintro e w7 ⟨rfl, hb⟩; refine ⟨_, rfl, ?_⟩; have n0_ := zBB BK161 hb; have n1_ := Aside0.mk (below_step (zH1 HB.out GE161.out) hb); clear BK161; clear HB; have BK161 := n0_; have HB := n1_; clear n0_ n1_; (try clear hb); (try clear hb2); (try clear hk); (try clear hi); (try simp only [errW_none, errW_some]); have hcz8_0 : w7.cell? ⟨gb161, 0, none⟩ = some (.slice A0_0 l0_0.length c0_0) := (blk_cell BK161.out 0).trans rfl; have hcz8_1 : w7.cell? ⟨gb161, 1, none⟩ = some (.slice A0_1 l0_1.length c0_1) := (blk_cell BK161.out 1).trans rfl; have hcz8_2 : w7.cell? ⟨gb161, 2, none⟩ = some (.int .i64 a0_2) := (blk_cell BK161.out 2).trans rfl; have hfz8_0 := blk_frozen BK161.out 0; have hfz8_1 := blk_frozen BK161.out 1; have hfz8_2 := blk_frozen BK161.out 2))
   go_meet
   case rel => exact ⟨_, (((l1.length : Int) != (l0_0.length : Int))), zS, H', ⟨by first | omega | exact Nat.le_refl _⟩, ⟨zB BK161.out⟩, ⟨zH1 HB.out GE161.out⟩⟩
  ·
   have H1 : (lots_fits.j0 k l1 true l0_0 l0_1 a0_2) = some r := by rw [if_neg (show ¬ (some q163).isNone = true by simp)] at H; exact H
   clear H; have H := H1; clear H1
   try simp only [errW_none, errW_some]
   have H' := Aside0.mk H; clear H; have hcz9_0 : w4.cell? ⟨gb161, 0, none⟩ = some (.slice A0_0 l0_0.length c0_0) := (blk_cell BK161.out 0).trans rfl; have hcz9_1 : w4.cell? ⟨gb161, 1, none⟩ = some (.slice A0_1 l0_1.length c0_1) := (blk_cell BK161.out 1).trans rfl; have hcz9_2 : w4.cell? ⟨gb161, 2, none⟩ = some (.int .i64 a0_2) := (blk_cell BK161.out 2).trans rfl; have hfz9_0 := blk_frozen BK161.out 0; have hfz9_1 := blk_frozen BK161.out 1; have hfz9_2 := blk_frozen BK161.out 2
   go_wp2_with (first | ((with_reducible refine gate_callee (f := 12) rfl ?_); refine goesL_ (some 8) rfl rfl Tryd.func12 (by kernel_rfl) rfl #[.agg #[.slice A0_0 l0_0.length c0_0, .slice A0_1 l0_1.length c0_1, .int .i64 a0_2]] rfl zM ?_; (with_reducible refine (lots_Valid.calls _ _ l0_0 _ _ l0_1 a0_2 (some q163) _ ?side1 ?side2 ?side3 ?side4 ?side5 A5.out).mono ?_); (case side1 => exact GlobOK.below HG.out (zH1 HB.out GE161.out)); (case side2 => exact zC HR0_0.out HB.out); (case side3 => exact HC0_0.out); (case side4 => exact zC HR0_1.out HB.out); (case side5 => exact HC0_1.out); rintro e w10 ⟨rfl, hb⟩; refine ⟨_, rfl, ?_⟩; have n0_ := zBB BK161 hb; have n1_ := Aside0.mk (below_step (zH1 HB.out GE161.out) hb); clear BK161; clear HB; have BK161 := n0_; have HB := n1_; clear n0_ n1_; (try clear hb); (try clear hb2); (try clear hk); (try clear hi); (try simp only [errW_none, errW_some])))
   go_meet
   case rel => exact ⟨_, (true), zS, H', ⟨by first | omega | exact Nat.le_refl _⟩, ⟨zB BK161.out⟩, ⟨zH1 HB.out GE161.out⟩⟩
 case rest =>
  clear HC3
  try clear c1
  try clear q1
  try clear p2
  try clear c3
  try clear hcz6_0
  try clear hcz6_1
  try clear hcz6_2
  try clear hcz8_0
  try clear hcz8_1
  try clear hcz8_2
  try clear hcz9_0
  try clear hcz9_1
  try clear hcz9_2
  try clear hfz6_0
  try clear hfz6_1
  try clear hfz6_2
  try clear hfz8_0
  try clear hfz8_1
  try clear hfz8_2
  try clear hfz9_0
  try clear hfz9_1
  try clear hfz9_2
  try clear q163
  obtain ⟨kq, x17_2, rfl, HA, HJ2, BK161, HB⟩ := hcut
  cases kq with
  | zero => exact absurd HA.out (by simp [lots_fits.j0])
  | succ kj2 =>
   have H := HA.out; clear HA; simp only [lots_fits.j0] at H; by_cases c11 : x17_2 = true
   ·
    subst c11; have H1 : (some false) = some r := by rw [if_pos rfl] at H; exact H
    clear H; have H := H1; clear H1; obtain rfl := Option.some.inj H
    go_wp2
    go_ret
    exact ⟨zE, zH1 HB.out GE161.out⟩
   ·
    replace c11 := Bool.eq_false_iff.mpr c11; subst c11; have H1 : (lots_fits.l0 kj2 l1 (l1.length : Int) 0 l0_0 l0_1 a0_2) = some r := by rw [if_neg (show ¬ (false = true) by decide)] at H; exact H
    clear H; have H := H1; clear H1; have H' := Aside0.mk H; clear H
    go_wp2
    go_loopg [20] kj2 (fun kq v20 w' => ∃ (x20_2 : Int), v20 = .int .i64 x20_2 ∧ Aside0 (lots_fits.l0 kq l1 (l1.length : Int) x20_2 l0_0 l0_1 a0_2 = some r) ∧ Aside0 (kq ≤ kj2) ∧ Aside0 (w'.heap[gb161]? = some (.cells #[(.slice A0_0 l0_0.length c0_0), (.slice A0_1 l0_1.length c0_1), .int .i64 a0_2] 29 (0, 0))) ∧ Aside0 (Below w.heap.size w w'))
    case atStart => exact ⟨(0), zS, H', ⟨Nat.le_refl _⟩, ⟨zB BK161.out⟩, ⟨zH1 HB.out GE161.out⟩⟩
    case round =>
     clear H'
     try clear c1
     try clear q1
     try clear p2
     try clear c3
     try clear c11
     try clear hcz6_0
     try clear hcz6_1
     try clear hcz6_2
     try clear hcz8_0
     try clear hcz8_1
     try clear hcz8_2
     try clear hcz9_0
     try clear hcz9_1
     try clear hcz9_2
     try clear hfz6_0
     try clear hfz6_1
     try clear hfz6_2
     try clear hfz8_0
     try clear hfz8_1
     try clear hfz8_2
     try clear hfz9_0
     try clear hfz9_1
     try clear hfz9_2
     try clear p2
     try clear q1
     try clear q163
     obtain ⟨x20_2, rfl, HA, HK2, BK161, HB⟩ := hrel
     cases gk with
     | zero => exact absurd HA.out (by simp [lots_fits.l0])
     | succ k2 =>
      have H := HA.out; clear HA; simp only [lots_fits.l0] at H; by_cases c12 : x20_2 < (l1.length : Int)
      ·
       rw [if_pos c12] at H; have c12b0 : decide (x20_2 < (l1.length : Int)) = true := decide_eq_true c12; clear c12; by_cases c13 : 0 ≤ x20_2
       ·
        rw [if_pos c13] at H; have c13b0 : decide (0 ≤ x20_2) = true := decide_eq_true c13; clear c13; by_cases c14 : x20_2 < (l1.length : Int)
        ·
         rw [if_pos c14] at H; have c14b0 : decide (x20_2 < (l1.length : Int)) = true := decide_eq_true c14; clear c14; by_cases c15 : (rd l1 x20_2) < 0
         ·
          rw [if_pos c15] at H; have c15b0 : decide ((rd l1 x20_2) < 0) = true := decide_eq_true c15; clear c15; obtain rfl := Option.some.inj H; have p164 : 0 ≤ (x20_2 : Int) := of_decide_eq_true zA; have q164 : x20_2 < (l1.length : Int) := of_decide_eq_true zA; obtain ⟨ad164, e164, hx164_0⟩ := Kd.at_int HR1.out x20_2 p164 q164
          cases e164
          replace hx164_0 := (HB.out.cell (World.block_lt_of_cell? w _ hx164_0)).trans hx164_0; replace p164 := eq_true p164; replace q164 := eq_true q164
          go_wp2
          go_ret
          exact ⟨zE, zH1 HB.out GE161.out⟩
         ·
          rw [if_neg c15] at H; have c15b0 : decide ((rd l1 x20_2) < 0) = false := decide_eq_false c15; clear c15; by_cases c16 : x20_2 < (l0_0.length : Int)
          ·
           rw [if_pos c16] at H; have c16b0 : decide (x20_2 < (l0_0.length : Int)) = true := decide_eq_true c16; clear c16; by_cases c17 : (rd l1 x20_2) > ((rd_T25 l0_0 x20_2).f0)
           ·
            rw [if_pos c17] at H; have c17b0 : decide (((rd_T25 l0_0 x20_2).f0) < (rd l1 x20_2)) = true := decide_eq_true c17; clear c17; obtain rfl := Option.some.inj H; have p164 : 0 ≤ (x20_2 : Int) := of_decide_eq_true zA; have q164 : x20_2 < (l1.length : Int) := of_decide_eq_true zA; obtain ⟨ad164, e164, hx164_0⟩ := Kd.at_int HR1.out x20_2 p164 q164
            cases e164
            replace hx164_0 := (HB.out.cell (World.block_lt_of_cell? w _ hx164_0)).trans hx164_0; replace p164 := eq_true p164; replace q164 := eq_true q164; have hcz18_0 : wr.cell? ⟨gb161, 0, none⟩ = some (.slice A0_0 l0_0.length c0_0) := (blk_cell BK161.out 0).trans rfl; have hcz18_1 : wr.cell? ⟨gb161, 1, none⟩ = some (.slice A0_1 l0_1.length c0_1) := (blk_cell BK161.out 1).trans rfl; have hcz18_2 : wr.cell? ⟨gb161, 2, none⟩ = some (.int .i64 a0_2) := (blk_cell BK161.out 2).trans rfl; have hfz18_0 := blk_frozen BK161.out 0; have hfz18_1 := blk_frozen BK161.out 1; have hfz18_2 := blk_frozen BK161.out 2; have p165 : 0 ≤ (x20_2 : Int) := of_decide_eq_true zA; have q165 : x20_2 < (l0_0.length : Int) := of_decide_eq_true zA; obtain ⟨ad165, e165, hx165_0, hx165_1, hx165_2, hx165_3⟩ := at_T25 HR0_0.out x20_2 p165 q165
            cases e165
            replace hx165_0 := (HB.out.cell (World.block_lt_of_cell? w _ hx165_0)).trans hx165_0; replace hx165_1 := (HB.out.cell (World.block_lt_of_cell? w _ hx165_1)).trans hx165_1; replace hx165_2 := (HB.out.cell (World.block_lt_of_cell? w _ hx165_2)).trans hx165_2; replace hx165_3 := (HB.out.cell (World.block_lt_of_cell? w _ hx165_3)).trans hx165_3; replace p165 := eq_true p165; replace q165 := eq_true q165
            go_wp2
            go_ret
            exact ⟨zE, zH1 HB.out GE161.out⟩
           ·
            rw [if_neg c17] at H; have c17b0 : decide (((rd_T25 l0_0 x20_2).f0) < (rd l1 x20_2)) = false := decide_eq_false c17; clear c17; have H' := Aside0.mk H; clear H; have p164 : 0 ≤ (x20_2 : Int) := of_decide_eq_true zA; have q164 : x20_2 < (l1.length : Int) := of_decide_eq_true zA; obtain ⟨ad164, e164, hx164_0⟩ := Kd.at_int HR1.out x20_2 p164 q164
            cases e164
            replace hx164_0 := (HB.out.cell (World.block_lt_of_cell? w _ hx164_0)).trans hx164_0; replace p164 := eq_true p164; replace q164 := eq_true q164; have hcz19_0 : wr.cell? ⟨gb161, 0, none⟩ = some (.slice A0_0 l0_0.length c0_0) := (blk_cell BK161.out 0).trans rfl; have hcz19_1 : wr.cell? ⟨gb161, 1, none⟩ = some (.slice A0_1 l0_1.length c0_1) := (blk_cell BK161.out 1).trans rfl; have hcz19_2 : wr.cell? ⟨gb161, 2, none⟩ = some (.int .i64 a0_2) := (blk_cell BK161.out 2).trans rfl; have hfz19_0 := blk_frozen BK161.out 0; have hfz19_1 := blk_frozen BK161.out 1; have hfz19_2 := blk_frozen BK161.out 2; have p165 : 0 ≤ (x20_2 : Int) := of_decide_eq_true zA; have q165 : x20_2 < (l0_0.length : Int) := of_decide_eq_true zA; obtain ⟨ad165, e165, hx165_0, hx165_1, hx165_2, hx165_3⟩ := at_T25 HR0_0.out x20_2 p165 q165
            cases e165
            replace hx165_0 := (HB.out.cell (World.block_lt_of_cell? w _ hx165_0)).trans hx165_0; replace hx165_1 := (HB.out.cell (World.block_lt_of_cell? w _ hx165_1)).trans hx165_1; replace hx165_2 := (HB.out.cell (World.block_lt_of_cell? w _ hx165_2)).trans hx165_2; replace hx165_3 := (HB.out.cell (World.block_lt_of_cell? w _ hx165_3)).trans hx165_3; replace p165 := eq_true p165; replace q165 := eq_true q165
            go_wp2
            go_roundg k2
            case measure => have := HJ2.out; have := HK2.out; omega
            case rel => exact ⟨(wrap64 (x20_2 + 1)), zS, H', ⟨by have := HJ2.out; have := HK2.out; omega⟩, ⟨zB BK161.out⟩, ⟨zH1 HB.out GE161.out⟩⟩
          ·
           rw [if_neg c16] at H; exact absurd H (by simp)
        ·
         rw [if_neg c14] at H; exact absurd H (by simp)
       ·
        rw [if_neg c13] at H; exact absurd H (by simp)
      ·
       rw [if_neg c12] at H; have c12b0 : decide (x20_2 < (l1.length : Int)) = false := decide_eq_false c12; clear c12; obtain rfl := Option.some.inj H
       go_wp2
       go_ret
       exact ⟨zE, zH1 HB.out GE161.out⟩

/-! ### lots_Worth: function 16 -/
def lots_Worth.f (k : Nat) (l0_0 : List (S25)) (l0_1 : List Int) (a0_2 : Int) (l1 : List Int) : Option (Int × Bool) := (lots_fits.f k l0_0 l0_1 a0_2 l1).bind fun t167 => (if t167 = true then ((lots_worth.f k l0_0 l0_1 a0_2 l1).bind fun t168 => (some (t168, true))) else (some (0, false)))
theorem lots_Worth.mono : ∀ a0 a1 a2 a3 k, LeO (lots_Worth.f k a0 a1 a2 a3) (lots_Worth.f (k + 1) a0 a1 a2 a3) := by
  intro a0 a1 a2 a3 k; unfold lots_Worth.f
  repeat' first
      | (with_reducible exact lots_fits.mono _ _ _ _ _)
      | (with_reducible exact lots_worth.mono _ _ _ _ _)
      | (with_reducible exact LeO.refl _)
      | (with_reducible exact LeO.none _)
      | (with_reducible refine LeO.ite ?_ ?_)
      | (with_reducible refine LeO.bind ?_ (fun _ => ?_))
      | exact lots_fits.mono _ _ _ _ _
      | exact lots_worth.mono _ _ _ _ _
      | exact LeO.none _
      | refine LeO.ite ?_ ?_
      | refine LeO.bind ?_ (fun _ => ?_)
set_option maxHeartbeats 8000000 in
set_option maxRecDepth 100000 in
theorem lots_Worth.calls [Inhabited (Int → Addr)] (k : Nat) (A0_0 : Option Addr) (c0_0 : Nat) (l0_0 : List (S25)) (A0_1 : Option Addr) (c0_1 : Nat) (l0_1 : List Int) (a0_2 : Int) (A1 : Option Addr) (c1 : Nat) (l1 : List Int) (r1 : Int) (r2 : Bool) (w : World) (hG : GlobOK w) (hr0_0 : Kd.C k25 w A0_0 l0_0.length l0_0) (hc0_0 : l0_0.length ≤ c0_0) (hr0_1 : Kd.C (Kd.int .i64) w A0_1 l0_1.length l0_1) (hc0_1 : l0_1.length ≤ c0_1) (hr1 : Kd.C (Kd.int .i64) w A1 l1.length l1) (hc1 : l1.length ≤ c1) (h : lots_Worth.f k l0_0 l0_1 a0_2 l1 = some (r1, r2)) :
    Calls Tryd.prog 16 #[.agg #[.slice A0_0 l0_0.length c0_0, .slice A0_1 l0_1.length c0_1, .int .i64 a0_2], .slice A1 l1.length c1] w fun e w' => e = .returned (.tuple #[.int .i64 r1, .bool r2]) ∧ Below w.heap.size w w' := by
  have hu29 := Tryd.underlying29; have HG := Aside0.mk hG; clear hG; have HR0_0 := Aside0.mk hr0_0; have HC0_0 := Aside0.mk hc0_0; clear hr0_0 hc0_0; have HR0_1 := Aside0.mk hr0_1; have HC0_1 := Aside0.mk hc0_1; clear hr0_1 hc0_1; have HR1 := Aside0.mk hr1; have HC1 := Aside0.mk hc1; clear hr1 hc1; have HB := Aside0.mk (Below.refl w.heap.size w); have H : ((lots_fits.f k l0_0 l0_1 a0_2 l1).bind fun t167 => (if t167 = true then ((lots_worth.f k l0_0 l0_1 a0_2 l1).bind fun t168 => (some (t168, true))) else (some (0, false)))) = some (r1, r2) := h; clear h; replace H := Option.bind_eq_some_iff.mp H; obtain ⟨t167, A30, H⟩ := H; replace H : (if t167 = true then ((lots_worth.f k l0_0 l0_1 a0_2 l1).bind fun t168 => (some (t168, true))) else (some (0, false))) = some (r1, r2) := H; have A3 := Aside0.mk A30; clear A30; by_cases c4 : t167 = true
  · subst c4
    have H1 : ((lots_worth.f k l0_0 l0_1 a0_2 l1).bind fun t168 => (some (t168, true))) = some (r1, r2) := by rw [if_pos rfl] at H; exact H
    clear H; have H := H1; clear H1; replace H := Option.bind_eq_some_iff.mp H; obtain ⟨t168, A50, H⟩ := H; replace H : (some (t168, true)) = some (r1, r2) := H; have A5 := Aside0.mk A50; clear A50; simp only [Option.some.injEq, Prod.mk.injEq] at H; obtain ⟨rfl, rfl⟩ := H
    go_enter Tryd.func16, Tryd.ntmps16
    go_wp2_with (first | ((with_reducible refine gate_dst (N := 2) rfl ?_); refine box_event ?hg (N := 2) ?hd (cs := #[.slice A0_0 l0_0.length c0_0, .slice A0_1 l0_1.length c0_1, .int .i64 a0_2]) (t := 29) ?hr ?_; (case hd => rfl); (case hg => rfl); (case hr => first | (go_simp; done) | (go_simp; rfl)); intro gb166 hg w6 hbox hb; have n0_ := Aside0.mk (below_step (zH HB.out) hb); have n1_ := Aside0.mk (hbox); have n2_ := Aside0.mk (zg hg (below_size (zH HB.out)) : w.heap.size ≤ gb166); have n3_ := Aside0.mk (zg hg (below_size (zH HB.out)) : w.heap.size ≤ gb166); clear HB; have HB := n0_; have BK166 := n1_; have GW166 := n2_; have GE166 := n3_; clear n0_ n1_ n2_ n3_; clear hb hbox hg; have hcz7_0 : w6.cell? ⟨gb166, 0, none⟩ = some (.slice A0_0 l0_0.length c0_0) := (blk_cell BK166.out 0).trans rfl; have hcz7_1 : w6.cell? ⟨gb166, 1, none⟩ = some (.slice A0_1 l0_1.length c0_1) := (blk_cell BK166.out 1).trans rfl; have hcz7_2 : w6.cell? ⟨gb166, 2, none⟩ = some (.int .i64 a0_2) := (blk_cell BK166.out 2).trans rfl; have hfz7_0 := blk_frozen BK166.out 0; have hfz7_1 := blk_frozen BK166.out 1; have hfz7_2 := blk_frozen BK166.out 2) | ((with_reducible refine gate_callee (f := 36) rfl ?_); refine goesL_ (some 8) rfl rfl Tryd.func36 (by kernel_rfl) rfl #[.agg #[.slice A0_0 l0_0.length c0_0, .slice A0_1 l0_1.length c0_1, .int .i64 a0_2], .slice A1 l1.length c1] rfl zM ?_; (with_reducible refine (lots_fits.calls k _ _ l0_0 _ _ l0_1 a0_2 _ _ l1 true _ ?side1 ?side2 ?side3 ?side4 ?side5 ?side6 ?side7 A3.out).mono ?_); (case side1 => exact GlobOK.below HG.out (zH1 HB.out GE166.out)); (case side2 => exact zC HR0_0.out HB.out); (case side3 => exact HC0_0.out); (case side4 => exact zC HR0_1.out HB.out); (case side5 => exact HC0_1.out); (case side6 => exact zC HR1.out HB.out); (case side7 => exact HC1.out); rintro e w8 ⟨rfl, hb⟩; refine ⟨_, rfl, ?_⟩; have n0_ := zBB BK166 hb; have n1_ := Aside0.mk (below_step (zH1 HB.out GE166.out) hb); clear BK166; clear HB; have BK166 := n0_; have HB := n1_; clear n0_ n1_; (try clear hb); (try clear hb2); (try clear hk); (try clear hi); have hcz9_0 : w8.cell? ⟨gb166, 0, none⟩ = some (.slice A0_0 l0_0.length c0_0) := (blk_cell BK166.out 0).trans rfl; have hcz9_1 : w8.cell? ⟨gb166, 1, none⟩ = some (.slice A0_1 l0_1.length c0_1) := (blk_cell BK166.out 1).trans rfl; have hcz9_2 : w8.cell? ⟨gb166, 2, none⟩ = some (.int .i64 a0_2) := (blk_cell BK166.out 2).trans rfl; have hfz9_0 := blk_frozen BK166.out 0; have hfz9_1 := blk_frozen BK166.out 1; have hfz9_2 := blk_frozen BK166.out 2) | ((with_reducible refine gate_callee (f := 27) rfl ?_); refine goesL_ (some 12) rfl rfl Tryd.func27 (by kernel_rfl) rfl #[.agg #[.slice A0_0 l0_0.length c0_0, .slice A0_1 l0_1.length c0_1, .int .i64 a0_2], .slice A1 l1.length c1] rfl zM ?_; (with_reducible refine (lots_worth.calls k _ _ l0_0 _ _ l0_1 a0_2 _ _ l1 t168 _ ?side1 ?side2 ?side3 ?side4 ?side5 ?side6 A5.out).mono ?_); (case side1 => exact zC HR0_0.out HB.out); (case side2 => exact HC0_0.out); (case side3 => exact zC HR0_1.out HB.out); (case side4 => exact HC0_1.out); (case side5 => exact zC HR1.out HB.out); (case side6 => exact HC1.out); rintro e w10 ⟨rfl, hb⟩; refine ⟨_, rfl, ?_⟩; have n0_ := zBB BK166 hb; have n1_ := Aside0.mk (below_step (zH1 HB.out GE166.out) hb); clear BK166; clear HB; have BK166 := n0_; have HB := n1_; clear n0_ n1_; (try clear hb); (try clear hb2); (try clear hk); (try clear hi)))
    go_ret2
    exact ⟨zE, zH1 HB.out GE166.out⟩
  · replace c4 := Bool.eq_false_iff.mpr c4
    subst c4; have H1 : (some (0, false)) = some (r1, r2) := by rw [if_neg (show ¬ (false = true) by decide)] at H; exact H
    clear H; have H := H1; clear H1; simp only [Option.some.injEq, Prod.mk.injEq] at H; obtain ⟨rfl, rfl⟩ := H
    go_enter Tryd.func16, Tryd.ntmps16
    go_wp2_with (first | ((with_reducible refine gate_dst (N := 2) rfl ?_); refine box_event ?hg (N := 2) ?hd (cs := #[.slice A0_0 l0_0.length c0_0, .slice A0_1 l0_1.length c0_1, .int .i64 a0_2]) (t := 29) ?hr ?_; (case hd => rfl); (case hg => rfl); (case hr => first | (go_simp; done) | (go_simp; rfl)); intro gb166 hg w11 hbox hb; have n0_ := Aside0.mk (below_step (zH HB.out) hb); have n1_ := Aside0.mk (hbox); have n2_ := Aside0.mk (zg hg (below_size (zH HB.out)) : w.heap.size ≤ gb166); have n3_ := Aside0.mk (zg hg (below_size (zH HB.out)) : w.heap.size ≤ gb166); clear HB; have HB := n0_; have BK166 := n1_; have GW166 := n2_; have GE166 := n3_; clear n0_ n1_ n2_ n3_; clear hb hbox hg; have hcz12_0 : w11.cell? ⟨gb166, 0, none⟩ = some (.slice A0_0 l0_0.length c0_0) := (blk_cell BK166.out 0).trans rfl; have hcz12_1 : w11.cell? ⟨gb166, 1, none⟩ = some (.slice A0_1 l0_1.length c0_1) := (blk_cell BK166.out 1).trans rfl; have hcz12_2 : w11.cell? ⟨gb166, 2, none⟩ = some (.int .i64 a0_2) := (blk_cell BK166.out 2).trans rfl; have hfz12_0 := blk_frozen BK166.out 0; have hfz12_1 := blk_frozen BK166.out 1; have hfz12_2 := blk_frozen BK166.out 2) | ((with_reducible refine gate_callee (f := 36) rfl ?_); refine goesL_ (some 8) rfl rfl Tryd.func36 (by kernel_rfl) rfl #[.agg #[.slice A0_0 l0_0.length c0_0, .slice A0_1 l0_1.length c0_1, .int .i64 a0_2], .slice A1 l1.length c1] rfl zM ?_; (with_reducible refine (lots_fits.calls k _ _ l0_0 _ _ l0_1 a0_2 _ _ l1 false _ ?side1 ?side2 ?side3 ?side4 ?side5 ?side6 ?side7 A3.out).mono ?_); (case side1 => exact GlobOK.below HG.out (zH1 HB.out GE166.out)); (case side2 => exact zC HR0_0.out HB.out); (case side3 => exact HC0_0.out); (case side4 => exact zC HR0_1.out HB.out); (case side5 => exact HC0_1.out); (case side6 => exact zC HR1.out HB.out); (case side7 => exact HC1.out); rintro e w13 ⟨rfl, hb⟩; refine ⟨_, rfl, ?_⟩; have n0_ := zBB BK166 hb; have n1_ := Aside0.mk (below_step (zH1 HB.out GE166.out) hb); clear BK166; clear HB; have BK166 := n0_; have HB := n1_; clear n0_ n1_; (try clear hb); (try clear hb2); (try clear hk); (try clear hi)))
    go_ret2
    exact ⟨zE, zH1 HB.out GE166.out⟩

/-! ### lots_whole: function 35 -/
def lots_whole.l0 : Nat → List Int → List (S25) → Int → Int → Option (List Int)
 | 0, _, _, _, _ => none
 | k + 1, x3, x7, x8, x9 => if x9 < x8 then (if 0 ≤ x9 then (if x9 < (x7.length : Int) then (if x3.length < 17592186044416 then (lots_whole.l0 k (x3 ++ [(rd_T25 x7 x9).f0]) x7 x8 (wrap64 (x9 + 1))) else (none)) else (none)) else (none)) else (some x3)
def lots_whole.f (k : Nat) (l0_0 : List (S25)) (l0_1 : List Int) (a0_2 : Int) : Option (List Int) := lots_whole.l0 k ([] : List Int) l0_0 (l0_0.length : Int) 0
theorem lots_whole.mono_l : ∀ k, (∀ y0 y1 y2 y3, LeO (lots_whole.l0 k y0 y1 y2 y3) (lots_whole.l0 (k + 1) y0 y1 y2 y3))
 | 0 => fun _ _ _ _ r h => by simp [lots_whole.l0] at h
 | k + 1 => by
  have ih0 := lots_whole.mono_l k
  ·
   intro y0 y1 y2 y3; unfold lots_whole.l0
   repeat' first
   | (with_reducible exact ih0 _ _ _ _)
   | (with_reducible exact LeO.refl _)
   | (with_reducible exact LeO.none _)
   | (with_reducible refine LeO.ite ?_ ?_)
   | (with_reducible refine LeO.bind ?_ (fun _ => ?_))
   | exact ih0 _ _ _ _
   | exact LeO.none _
   | refine LeO.ite ?_ ?_
   | refine LeO.bind ?_ (fun _ => ?_)
theorem lots_whole.mono : ∀ a0 a1 a2 k, LeO (lots_whole.f k a0 a1 a2) (lots_whole.f (k + 1) a0 a1 a2) := by
 intro a0 a1 a2 k; have ih0 := lots_whole.mono_l k; unfold lots_whole.f
 repeat' first
   | (with_reducible exact ih0 _ _ _ _)
   | (with_reducible exact LeO.refl _)
   | (with_reducible exact LeO.none _)
   | (with_reducible refine LeO.ite ?_ ?_)
   | (with_reducible refine LeO.bind ?_ (fun _ => ?_))
   | exact ih0 _ _ _ _
   | exact LeO.none _
   | refine LeO.ite ?_ ?_
   | refine LeO.bind ?_ (fun _ => ?_)
set_option maxHeartbeats 8000000 in
set_option maxRecDepth 100000 in
theorem lots_whole.calls [Inhabited (Int → Addr)] (k : Nat) (A0_0 : Option Addr) (c0_0 : Nat) (l0_0 : List (S25)) (A0_1 : Option Addr) (c0_1 : Nat) (l0_1 : List Int) (a0_2 : Int) (r : List Int) (w : World) (hr0_0 : Kd.C k25 w A0_0 l0_0.length l0_0) (hc0_0 : l0_0.length ≤ c0_0) (hr0_1 : Kd.C (Kd.int .i64) w A0_1 l0_1.length l0_1) (hc0_1 : l0_1.length ≤ c0_1) (h : lots_whole.f k l0_0 l0_1 a0_2 = some r) :
  Calls Tryd.prog 35 #[.agg #[.slice A0_0 l0_0.length c0_0, .slice A0_1 l0_1.length c0_1, .int .i64 a0_2]] w fun e w' => ∃ v0_ : Value, e = .returned (v0_) ∧ Kd.R (Kd.int .i64) 3 w' w.heap.size (fun _ => True) v0_ r ∧ Below w.heap.size w w' := by
 have hu29 := Tryd.underlying29; have hu25 := Tryd.underlying25; have HR0_0 := Aside0.mk hr0_0; have HC0_0 := Aside0.mk hc0_0; clear hr0_0 hc0_0; have HR0_1 := Aside0.mk hr0_1; have HC0_1 := Aside0.mk hc0_1; clear hr0_1 hc0_1; have HB := Aside0.mk (Below.refl w.heap.size w); have H : (lots_whole.l0 k ([] : List Int) l0_0 (l0_0.length : Int) 0) = some r := h; clear h; have H' := Aside0.mk H; clear H
 go_enter Tryd.func35, Tryd.ntmps35
 go_wp2_with (first | ((with_reducible refine gate_dst (N := 1) rfl ?_); refine box_event ?hg (N := 1) ?hd (cs := #[.slice A0_0 l0_0.length c0_0, .slice A0_1 l0_1.length c0_1, .int .i64 a0_2]) (t := 29) ?hr ?_; (case hd => rfl); (case hg => rfl); (case hr => first | (go_simp; done) | (go_simp; rfl)); intro gb169 hg w2 hbox hb; have n0_ := Aside0.mk (below_step (zH HB.out) hb); have n1_ := Aside0.mk (hbox); have n2_ := Aside0.mk (zg hg (below_size (zH HB.out)) : w.heap.size ≤ gb169); have n3_ := Aside0.mk (zg hg (below_size (zH HB.out)) : w.heap.size ≤ gb169); clear HB; have HB := n0_; have BK169 := n1_; have GW169 := n2_; have GE169 := n3_; clear n0_ n1_ n2_ n3_; clear hb hbox hg; have hcz3_0 : w2.cell? ⟨gb169, 0, none⟩ = some (.slice A0_0 l0_0.length c0_0) := (blk_cell BK169.out 0).trans rfl; have hcz3_1 : w2.cell? ⟨gb169, 1, none⟩ = some (.slice A0_1 l0_1.length c0_1) := (blk_cell BK169.out 1).trans rfl; have hcz3_2 : w2.cell? ⟨gb169, 2, none⟩ = some (.int .i64 a0_2) := (blk_cell BK169.out 2).trans rfl; have hfz3_0 := blk_frozen BK169.out 0; have hfz3_1 := blk_frozen BK169.out 1; have hfz3_2 := blk_frozen BK169.out 2))
 go_loopg [3, 9] k (fun kq v3 v9 w' => ∃ (x3_1 : List Int) (x9_1 : Int), v9 = .int .i64 x9_1 ∧ Aside0 (lots_whole.l0 kq x3_1 l0_0 (l0_0.length : Int) x9_1 = some r) ∧ Aside0 (kq ≤ k) ∧ Aside0 (Kd.R (Kd.int .i64) 3 w' w.heap.size (fun _ => True) v3 x3_1) ∧ Aside0 (w'.heap[gb169]? = some (.cells #[(.slice A0_0 l0_0.length c0_0), (.slice A0_1 l0_1.length c0_1), .int .i64 a0_2] 29 (0, 0))) ∧ Aside0 (Below w.heap.size w w'))
 case atStart => exact ⟨(([] : List Int)), (0), zS, H', ⟨Nat.le_refl _⟩, ⟨by first | exact Kd.R_nil _ _ _ _ _ | exact Kd.N_nil _ _ _ _ _ | exact Kd.V_nil _ _ _ _ _ | exact Kd.Q_nil _ _ _ _ _ | exact Kd.S_nil _ _ _ _ _⟩, ⟨zB BK169.out⟩, ⟨zH1 HB.out GE169.out⟩⟩
 case round =>
  clear H'
  try clear p2
  try clear c3
  try clear hcz3_0
  try clear hcz3_1
  try clear hcz3_2
  try clear hfz3_0
  try clear hfz3_1
  try clear hfz3_2
  obtain ⟨x3_1, x9_1, rfl, HA, HK1, HO_3, BK169, HB⟩ := hrel
  cases gk with
  | zero => exact absurd HA.out (by simp [lots_whole.l0])
  | succ k1 =>
   have H := HA.out; clear HA; simp only [lots_whole.l0] at H; by_cases c4 : x9_1 < (l0_0.length : Int)
   ·
    rw [if_pos c4] at H; have c4b0 : decide (x9_1 < (l0_0.length : Int)) = true := decide_eq_true c4; clear c4; by_cases c5 : 0 ≤ x9_1
    ·
     rw [if_pos c5] at H; have c5b0 : decide (0 ≤ x9_1) = true := decide_eq_true c5; clear c5; by_cases c6 : x9_1 < (l0_0.length : Int)
     ·
      rw [if_pos c6] at H; have c6b0 : decide (x9_1 < (l0_0.length : Int)) = true := decide_eq_true c6; clear c6; by_cases c7 : x3_1.length < 17592186044416
      ·
       rw [if_pos c7] at H; have LMc7 := Aside0.mk c7; clear c7; obtain ⟨y172, hy172⟩ : ∃ y_ : List Int, y_ = (x3_1 ++ [(rd_T25 l0_0 x9_1).f0]) := ⟨_, rfl⟩; replace H : (lots_whole.l0 k1 y172 l0_0 (l0_0.length : Int) (wrap64 (x9_1 + 1))) = some r := by first | (rw [hy172]; with_reducible exact H) | (have H2_ := (Option.bind_some _ _).symm.trans H; rw [hy172]; with_reducible exact H2_) | (have H2_ := (Option.bind_some _ _).symm.trans H; with_reducible exact H2_) | with_reducible exact H | (rw [hy172]; exact H) | exact H
       have Ny172 := Aside0.mk hy172; clear hy172; have H' := Aside0.mk H; clear H; have p170 : 0 ≤ (x9_1 : Int) := of_decide_eq_true zA; have q170 : x9_1 < (l0_0.length : Int) := of_decide_eq_true zA; obtain ⟨ad170, e170, hx170_0, hx170_1, hx170_2, hx170_3⟩ := at_T25 HR0_0.out x9_1 p170 q170
       cases e170
       replace hx170_0 := (HB.out.cell (World.block_lt_of_cell? w _ hx170_0)).trans hx170_0; replace hx170_1 := (HB.out.cell (World.block_lt_of_cell? w _ hx170_1)).trans hx170_1; replace hx170_2 := (HB.out.cell (World.block_lt_of_cell? w _ hx170_2)).trans hx170_2; replace hx170_3 := (HB.out.cell (World.block_lt_of_cell? w _ hx170_3)).trans hx170_3; replace p170 := eq_true p170; replace q170 := eq_true q170
       go_wp2_with (first | ((with_reducible refine gate_dst (N := 5) rfl ?_); refine box_event ?hg (N := 5) ?hd (cs := #[.int .i64 0, .int .i64 0, .int .i64 0, .int .i64 0]) (t := 25) ?hr ?_; (case hd => rfl); (case hg => rfl); (case hr => first | (go_simp; done) | (go_simp; rfl)); intro gb171 hg w8 hbox hb; have n0_ := Aside0.mk (Kd.R_below (zR HO_3.out) hb); have n1_ := zBB BK169 hb; have n2_ := Aside0.mk (below_step (zH1 HB.out GE169.out) hb); have n3_ := Aside0.mk (hbox); have n4_ := Aside0.mk (zg hg (below_size (zH1 HB.out GE169.out)) : w.heap.size ≤ gb171); have n5_ := Aside0.mk (zg hg (below_size (zH1 HB.out GE169.out)) : w.heap.size ≤ gb171); have n6_ := Aside0.mk (zN hg BK169 : gb169 ≠ gb171); have n7_ := Aside0.mk (zO hg BK169 : gb171 ≠ gb169); clear HO_3; clear BK169; clear HB; have HO_3 := n0_; have BK169 := n1_; have HB := n2_; have BK171 := n3_; have GW171 := n4_; have GE171 := n5_; have NB169_171 := n6_; have NB171_169 := n7_; clear n0_ n1_ n2_ n3_ n4_ n5_ n6_ n7_; clear hb hbox hg; have hnb9 := NB171_169.out; have hnc9 := NB169_171.out; have hcz10_0 : w8.cell? ⟨gb171, 0, none⟩ = some (.int .i64 0) := (blk_cell BK171.out 0).trans rfl; have hcz10_1 : w8.cell? ⟨gb171, 1, none⟩ = some (.int .i64 0) := (blk_cell BK171.out 1).trans rfl; have hcz10_2 : w8.cell? ⟨gb171, 2, none⟩ = some (.int .i64 0) := (blk_cell BK171.out 2).trans rfl; have hcz10_3 : w8.cell? ⟨gb171, 3, none⟩ = some (.int .i64 0) := (blk_cell BK171.out 3).trans rfl; have hfz10_0 := blk_frozen BK171.out 0; have hfz10_1 := blk_frozen BK171.out 1; have hfz10_2 := blk_frozen BK171.out 2; have hfz10_3 := blk_frozen BK171.out 3) | ((with_reducible refine gate_builtin (b := .append) (xs := #[.tmp 13, .tmp 16]) rfl ?_); at_builtin; refine Kd.R_append (Kd.int .i64) (w0 := w) w.heap.size rfl (.tmp 13) (.tmp 16) 30 3 (.int .i64 0) 8 rfl Tryd.underlying30 info3 rfl (by decide) (by omega) u3 x3_1 ((rd_T25 l0_0 x9_1).f0) [.int .i64 ((rd_T25 l0_0 x9_1).f0)] (fun _ => True) (fun _ => False) rfl (by first | (go_simp; done) | (go_simp; rfl)) ?aP (fun _ hk => hk.elim) ?aF ?aO ?aB ?aS ?aL ?_; (case aP => exact rfl); (case aB => exact (zH2 HB.out GE169.out GE171.out)); (case aF => exact (fun _ _ => trivial)); (case aO => exact (by (with_reducible repeat (first | apply Kd.R_alloc | apply Kd.R_drewN | apply Kd.R_drew)); exact Kd.R_mono (Kd.R_far (p := ⟨gb171, 3, none⟩) (Kd.R_far (p := ⟨gb171, 2, none⟩) (Kd.R_far (p := ⟨gb171, 1, none⟩) (Kd.R_far (p := ⟨gb171, 0, none⟩) (Kd.R_types HO_3.out BK171.out (by decide)) (fun _ hk => hk.2) (.int .i64 ((rd_T25 l0_0 x9_1).f0))) (fun _ hk => hk.2) (.int .i64 ((rd_T25 l0_0 x9_1).f1))) (fun _ hk => hk.2) (.int .i64 ((rd_T25 l0_0 x9_1).f2))) (fun _ hk => hk.2) (.int .i64 ((rd_T25 l0_0 x9_1).f3))) (fun _ hk => trivial))); (case aS => exact (below_size (zH2 HB.out GE169.out GE171.out))); (case aL => have := LMc7.out; omega); intro v173 w11 ho hb hg hat; rw [← Ny172.out] at ho; have n0_ := Aside0.mk (blk_grown (g := gb169) (o := .cells #[.slice (some ad170) l0_0.length c0_0, .slice A0_1 l0_1.length c0_1, .int .i64 a0_2] 29 (0, 0)) (by (with_reducible repeat (first | refine blk_drewN ?_ _ | refine blk_drew ?_ | refine blk_alloc ?_ _ | refine blk_far ?_ NB169_171.out _)); exact BK169.out) hg (Kd.R_ne HO_3.out BK169.out (by decide))); have n1_ := Aside0.mk (blk_grown (g := gb171) (o := .cells #[.int .i64 ((rd_T25 l0_0 x9_1).f0), .int .i64 ((rd_T25 l0_0 x9_1).f1), .int .i64 ((rd_T25 l0_0 x9_1).f2), .int .i64 ((rd_T25 l0_0 x9_1).f3)] 25 (0, 0)) (by (with_reducible repeat (first | refine blk_drewN ?_ _ | refine blk_drew ?_ | refine blk_alloc ?_ _)); refine blk_put (cs := #[.int .i64 ((rd_T25 l0_0 x9_1).f0), .int .i64 ((rd_T25 l0_0 x9_1).f1), .int .i64 ((rd_T25 l0_0 x9_1).f2), .int .i64 0]) ?_ 3 _ rfl; (with_reducible repeat (first | refine blk_drewN ?_ _ | refine blk_drew ?_ | refine blk_alloc ?_ _)); refine blk_put (cs := #[.int .i64 ((rd_T25 l0_0 x9_1).f0), .int .i64 ((rd_T25 l0_0 x9_1).f1), .int .i64 0, .int .i64 0]) ?_ 2 _ rfl; (with_reducible repeat (first | refine blk_drewN ?_ _ | refine blk_drew ?_ | refine blk_alloc ?_ _)); refine blk_put (cs := #[.int .i64 ((rd_T25 l0_0 x9_1).f0), .int .i64 0, .int .i64 0, .int .i64 0]) ?_ 1 _ rfl; (with_reducible repeat (first | refine blk_drewN ?_ _ | refine blk_drew ?_ | refine blk_alloc ?_ _)); refine blk_put (cs := #[.int .i64 0, .int .i64 0, .int .i64 0, .int .i64 0]) ?_ 0 _ rfl; (with_reducible repeat (first | refine blk_drewN ?_ _ | refine blk_drew ?_ | refine blk_alloc ?_ _)); exact BK171.out) hg (Kd.R_ne HO_3.out BK171.out (by decide))); have n2_ := Aside0.mk (hb); have n3_ := Aside0.mk (ho); clear BK169; clear BK171; clear HB; clear HO_3; have BK169 := n0_; have BK171 := n1_; have HB := n2_; have HO174 := n3_; clear n0_ n1_ n2_ n3_; clear ho hb hg hat))
       go_roundg k1
       case measure => have := HK1.out; omega
       case rel => exact ⟨(y172), (wrap64 (x9_1 + 1)), zS, H', ⟨by have := HK1.out; omega⟩, ⟨by (with_reducible repeat (first | apply Kd.R_alloc | apply Kd.R_drewN | apply Kd.R_drew)); exact HO174.out⟩, ⟨zB BK169.out⟩, ⟨zH2 HB.out GE169.out GE171.out⟩⟩
      ·
       rw [if_neg c7] at H; exact absurd H (by simp)
     ·
      rw [if_neg c6] at H; exact absurd H (by simp)
    ·
     rw [if_neg c5] at H; exact absurd H (by simp)
   ·
    rw [if_neg c4] at H; have c4b0 : decide (x9_1 < (l0_0.length : Int)) = false := decide_eq_false c4; clear c4; obtain rfl := Option.some.inj H
    go_wp2
    go_ret
    exact ⟨_, zE, by (with_reducible repeat (first | apply Kd.R_alloc | apply Kd.R_drewN | apply Kd.R_drew)); exact HO_3.out, zH1 HB.out GE169.out⟩

/-! ### lots_Most: function 13 -/
def lots_Most.f (k : Nat) (l0_0 : List (S25)) (l0_1 : List Int) (a0_2 : Int) : Option (Int) := (lots_whole.f k l0_0 l0_1 a0_2).bind fun t176 => ((lots_Worth.f k l0_0 l0_1 a0_2 t176).bind fun bt179 => (some bt179.1))
theorem lots_Most.mono : ∀ a0 a1 a2 k, LeO (lots_Most.f k a0 a1 a2) (lots_Most.f (k + 1) a0 a1 a2) := by
 intro a0 a1 a2 k; unfold lots_Most.f
 repeat' first
   | (with_reducible exact lots_Worth.mono _ _ _ _ _)
   | (with_reducible exact lots_whole.mono _ _ _ _)
   | (with_reducible exact LeO.refl _)
   | (with_reducible exact LeO.none _)
   | (with_reducible refine LeO.ite ?_ ?_)
   | (with_reducible refine LeO.bind ?_ (fun _ => ?_))
   | exact lots_Worth.mono _ _ _ _ _
   | exact lots_whole.mono _ _ _ _
   | exact LeO.none _
   | refine LeO.ite ?_ ?_
   | refine LeO.bind ?_ (fun _ => ?_)
def lots_Most.T1 : Bool × List (List Nat × List Nat) := (true, [([], []), ([], []), ([1], [1]), ([0, 2, 2], [0, 2]), ([3], [3]), ([4], [4]), ([4], [4]), ([5, 3, 0, 1, 2, 3, 4, 5], [5]), ([6, 7, 0, 1, 2, 3, 4, 5, 6, 7], [6])])
def lots_Most.B1 : List Nat := [0, 0, 2, 7, 15, 31, 31, 63, 255]
theorem lots_Most.tab1 : rtab .any (opsOf Tryd.f13 1) = lots_Most.T1 := by kernel_rfl
theorem lots_Most.bits1 : waitsOk lots_Most.T1.2 lots_Most.B1 = true := by kernel_rfl
set_option maxHeartbeats 8000000 in
set_option maxRecDepth 100000 in
theorem lots_Most.calls [Inhabited (Int → Addr)] (k : Nat) (A0_0 : Option Addr) (c0_0 : Nat) (l0_0 : List (S25)) (A0_1 : Option Addr) (c0_1 : Nat) (l0_1 : List Int) (a0_2 : Int) (r : Int) (w : World) (hG : GlobOK w) (hr0_0 : Kd.C k25 w A0_0 l0_0.length l0_0) (hc0_0 : l0_0.length ≤ c0_0) (hr0_1 : Kd.C (Kd.int .i64) w A0_1 l0_1.length l0_1) (hc0_1 : l0_1.length ≤ c0_1) (h : lots_Most.f k l0_0 l0_1 a0_2 = some r) :
  Calls Tryd.prog 13 #[.agg #[.slice A0_0 l0_0.length c0_0, .slice A0_1 l0_1.length c0_1, .int .i64 a0_2]] w fun e w' => e = .returned (.int .i64 r) ∧ Below w.heap.size w w' := by
 have hu29 := Tryd.underlying29; have HG := Aside0.mk hG; clear hG; have HR0_0 := Aside0.mk hr0_0; have HC0_0 := Aside0.mk hc0_0; clear hr0_0 hc0_0; have HR0_1 := Aside0.mk hr0_1; have HC0_1 := Aside0.mk hc0_1; clear hr0_1 hc0_1; have HB := Aside0.mk (Below.refl w.heap.size w); have H : ((lots_whole.f k l0_0 l0_1 a0_2).bind fun t176 => ((lots_Worth.f k l0_0 l0_1 a0_2 t176).bind fun bt179 => (some bt179.1))) = some r := h; clear h; replace H := Option.bind_eq_some_iff.mp H; obtain ⟨t176, A20, H⟩ := H; replace H : ((lots_Worth.f k l0_0 l0_1 a0_2 t176).bind fun bt179 => (some bt179.1)) = some r := H; have A2 := Aside0.mk A20; clear A20; replace H := Option.bind_eq_some_iff.mp H; obtain ⟨⟨t179, t180⟩, A30, H⟩ := H; replace H : (some t179) = some r := H; have A3 := Aside0.mk A30; clear A30; obtain rfl := Option.some.inj H
 go_enter Tryd.func13, Tryd.ntmps13
 try go_wp2_with (first | ((with_reducible refine gate_dst (N := 1) rfl ?_); refine box_event ?hg (N := 1) ?hd (cs := #[.slice A0_0 l0_0.length c0_0, .slice A0_1 l0_1.length c0_1, .int .i64 a0_2]) (t := 29) ?hr ?_; (case hd => rfl); (case hg => rfl); (case hr => first | (go_simp; done) | (go_simp; rfl)); intro gb175 hg w4 hbox hb; have n0_ := Aside0.mk (below_step (zH HB.out) hb); have n1_ := Aside0.mk (hbox); have n2_ := Aside0.mk (zg hg (below_size (zH HB.out)) : w.heap.size ≤ gb175); have n3_ := Aside0.mk (zg hg (below_size (zH HB.out)) : w.heap.size ≤ gb175); clear HB; have HB := n0_; have BK175 := n1_; have GW175 := n2_; have GE175 := n3_; clear n0_ n1_ n2_ n3_; clear hb hbox hg))
 have n0_ := Aside0.mk (blk_drew BK175.out); have n1_ := Aside0.mk (below_drew1 HB.out); clear BK175; clear HB; have BK175 := n0_; have HB := n1_; clear n0_ n1_; refine start_ (n := 9) (S := fun w' => w'.cell? ⟨gb175, 0, none⟩ = some (.slice A0_0 l0_0.length c0_0) ∧ w'.cell? ⟨gb175, 1, none⟩ = some (.slice A0_1 l0_1.length c0_1) ∧ w'.cell? ⟨gb175, 2, none⟩ = some (.int .i64 a0_2)) (ds := []) #[false, false, false, false, false, false, false, false, false] (by kernel_rfl) rfl rfl ⟨(blk_cell BK175.out 0).trans rfl, (blk_cell BK175.out 1).trans rfl, (blk_cell BK175.out 2).trans rfl⟩ (fun hHeld => ?_); refine with_tabW lots_Most.tab1 lots_Most.bits1 (fun HT_ HW_ => ?_); generalize w4.drew = w5 at BK175 HB hHeld ⊢; refine take_ (i := 0) (N := some 6) (v := ?_) (a' := ?_) #[true, false, false, false, false, false, false, false, false] rfl rfl (take_ofW HT_.out HW_.out (by kernel_rfl)) (fun _ _ _ h => h) (Or.inl ⟨by rfl, ?_⟩) hHeld ?_ ?_; rotate_left
 ·
  rintro w' ⟨s0, s1, s2⟩; go_simp
  with_reducible rfl
 rotate_left
 · simp only [Act.put, zq1, zq2, zq3, i64_w, i32_w]; rfl
 refine take_ (i := 1) (N := some 7) (v := ?_) (a' := ?_) #[true, true, false, false, false, false, false, false, false] rfl rfl (take_ofW HT_.out HW_.out (by kernel_rfl)) (fun _ _ _ h => h) (Or.inl ⟨by rfl, ?_⟩) hHeld ?_ ?_; rotate_left
 ·
  rintro w' ⟨s0, s1, s2⟩; go_simp
  with_reducible rfl
 rotate_left
 · simp only [Act.put, zq1, zq2, zq3, i64_w, i32_w]; rfl
 refine one_ (i := 2) (N := some 8) #[true, true, true, false, false, false, false, false, false] rfl rfl (one_of HT_.out (by kernel_rfl)) (by decide) (fun K hK => ?_); refine goes_ Tryd.func35 (by kernel_rfl) rfl #[.agg #[.slice A0_0 l0_0.length c0_0, .slice A0_1 l0_1.length c0_1, .int .i64 a0_2]] (by rfl) rfl rfl zM ?_
 with_reducible refine (lots_whole.calls k _ _ l0_0 _ _ l0_1 a0_2 t176 _ ?side1 ?side2 ?side3 ?side4 A2.out).mono ?_
 (case side1 => exact zC HR0_0.out HB.out)
 (case side2 => exact HC0_0.out)
 (case side3 => exact zC HR0_1.out HB.out)
 (case side4 => exact HC0_1.out)
 rintro e w6 ⟨v177, rfl, ho0, hb⟩; refine ⟨_, rfl, ?_⟩; have n0_ := Aside0.mk (Kd.R_lower ho0 (below_size (zH1 HB.out GE175.out))); have n1_ := zBB BK175 hb; have n2_ := Aside0.mk (below_step (zH1 HB.out GE175.out) hb); clear BK175; clear HB; have HO178 := n0_; have BK175 := n1_; have HB := n2_; clear n0_ n1_ n2_; (try clear hb); (try clear hb2); (try clear hk); (try clear hi); (try clear ho0); obtain ⟨Ao7, co7, eo7⟩ := Kd.R_slice HO178.out
 (first | subst eo7 | (injection eo7 with f1_ f2_ f3_; have f4_ := f1_.symm; have f5_ := f3_.symm; clear f1_ f2_ f3_; subst f4_; subst f5_))
 refine hK.out _ _ ⟨(blk_cell BK175.out 0).trans rfl, (blk_cell BK175.out 1).trans rfl, (blk_cell BK175.out 2).trans rfl⟩ (fun hHeld => ?_); clear hK K; refine norm_ (a' := ?_) ?_ ?_; rotate_left
 ·
  show Act.put _ (some 8) _ = _
  simp only [Act.put, zq1, zq2, zq3, i64_w, i32_w]; rfl
 refine one_ (i := 3) (N := some 9) #[true, true, true, true, false, false, false, false, false] rfl rfl (one_of HT_.out (by kernel_rfl)) (by decide) (fun K hK => ?_); refine goes_ Tryd.func16 (by kernel_rfl) rfl #[.agg #[.slice A0_0 l0_0.length c0_0, .slice A0_1 l0_1.length c0_1, .int .i64 a0_2], .slice Ao7 t176.length co7] (by rfl) rfl rfl zM ?_
 with_reducible refine (lots_Worth.calls k _ _ l0_0 _ _ l0_1 a0_2 _ _ t176 t179 t180 _ ?side1 ?side2 ?side3 ?side4 ?side5 ?side6 ?side7 A3.out).mono ?_
 (case side1 => exact GlobOK.below HG.out (zH1 HB.out GE175.out))
 (case side2 => exact zC HR0_0.out HB.out)
 (case side3 => exact HC0_0.out)
 (case side4 => exact zC HR0_1.out HB.out)
 (case side5 => exact HC0_1.out)
 (case side6 => repeat (first | exact (Kd.R_reads' HO178.out).2.2 | (with_reducible refine Kd.C_alloc ?_ _) | (with_reducible refine Kd.C_drewN ?_ _) | (with_reducible refine Kd.C_drew ?_)))
 (case side7 => exact (Kd.R_reads' HO178.out).2.1)
 rintro e w8 ⟨rfl, hb⟩; refine ⟨_, rfl, ?_⟩; have n0_ := Aside0.mk (Kd.R_below (zR HO178.out) hb); have n1_ := zBB BK175 hb; have n2_ := Aside0.mk (below_step (zH1 HB.out GE175.out) hb); clear HO178; clear BK175; clear HB; have HO178 := n0_; have BK175 := n1_; have HB := n2_; clear n0_ n1_ n2_; (try clear hb); (try clear hb2); (try clear hk); (try clear hi); refine hK.out _ _ ⟨(blk_cell BK175.out 0).trans rfl, (blk_cell BK175.out 1).trans rfl, (blk_cell BK175.out 2).trans rfl⟩ (fun hHeld => ?_); clear hK K; refine norm_ (a' := ?_) ?_ ?_; rotate_left
 ·
  show Act.put _ (some 9) _ = _
  simp only [Act.put, zq1, zq2, zq3, i64_w, i32_w]; rfl
 refine pure_ (i := 4) (N := some 5) (v := ?_) (a' := ?_) #[true, true, true, true, true, false, false, false, false] rfl rfl (any_of HT_.out (by kernel_rfl)) (fun _ _ _ h => h) (Or.inl ⟨by rfl, ?_⟩) ?_ ?_; rotate_left
 · intro w'; go_simp; with_reducible rfl
 rotate_left
 · simp only [Act.put, zq1, zq2, zq3, i64_w, i32_w]; rfl
 refine pure_ (i := 5) (N := some 10) (v := ?_) (a' := ?_) #[true, true, true, true, true, true, false, false, false] rfl rfl (any_of HT_.out (by kernel_rfl)) (fun _ _ _ h => h) (Or.inl ⟨by rfl, ?_⟩) ?_ ?_; rotate_left
 · intro w'; go_simp; with_reducible rfl
 rotate_left
 · simp only [Act.put, zq1, zq2, zq3, i64_w, i32_w]; rfl
 refine pure_ (i := 6) (N := some 11) (v := ?_) (a' := ?_) #[true, true, true, true, true, true, true, false, false] rfl rfl (any_of HT_.out (by kernel_rfl)) (fun _ _ _ h => h) (Or.inl ⟨by rfl, ?_⟩) ?_ ?_; rotate_left
 · intro w'; go_simp; with_reducible rfl
 rotate_left
 · simp only [Act.put, zq1, zq2, zq3, i64_w, i32_w]; rfl
 refine pure_ (i := 7) (N := some 3) (v := ?_) (a' := ?_) #[true, true, true, true, true, true, true, true, false] rfl rfl (any_of HT_.out (by kernel_rfl)) (fun _ _ _ h => h) (Or.inl ⟨by rfl, ?_⟩) ?_ ?_; rotate_left
 · intro w'; go_simp; with_reducible rfl
 rotate_left
 · simp only [Act.put, zq1, zq2, zq3, i64_w, i32_w]; rfl
 refine pure_ (i := 8) (N := some 4) (v := ?_) (a' := ?_) #[true, true, true, true, true, true, true, true, true] rfl rfl (any_of HT_.out (by kernel_rfl)) (fun _ _ _ h => h) (Or.inl ⟨by rfl, ?_⟩) ?_ ?_; rotate_left
 · intro w'; go_simp; with_reducible rfl
 rotate_left
 · simp only [Act.put, zq1, zq2, zq3, i64_w, i32_w]; rfl
 refine done_ (done_of HT_.out (by kernel_rfl)) ?_
 try go_wp2
 go_ret
 exact ⟨zE, zH1 HB.out GE175.out⟩

/-! ### pledgelaw18_first: function 8 -/
def pledgelaw18_first.f (k : Nat)  : Option (Bool) := (some (([(⟨3, 5, 1, 0⟩ : S25)] : List (S25)) : List (S25))).bind fun y181 => ((some (([0] : List Int) : List Int)).bind fun y184 => ((lots_Greedy.f k y181 y184 0).bind fun bt188 => (if bt188.2 = true then (if (bt188.1.length : Int) = 1 then (if 0 < (bt188.1.length : Int) then (if (rd bt188.1 0) = 0 then ((lots_Most.f k y181 y184 0).bind fun t193 => (some (t193 == 15))) else (some false)) else (none)) else (some false)) else (some false))))
theorem pledgelaw18_first.mono : ∀ k, LeO (pledgelaw18_first.f k ) (pledgelaw18_first.f (k + 1) ) := by
 intro  k; unfold pledgelaw18_first.f
 repeat' first
   | (with_reducible exact lots_Greedy.mono _ _ _ _)
   | (with_reducible exact lots_Most.mono _ _ _ _)
   | (with_reducible exact LeO.refl _)
   | (with_reducible exact LeO.none _)
   | (with_reducible refine LeO.ite ?_ ?_)
   | (with_reducible refine LeO.bind ?_ (fun _ => ?_))
   | exact lots_Greedy.mono _ _ _ _
   | exact lots_Most.mono _ _ _ _
   | exact LeO.none _
   | refine LeO.ite ?_ ?_
   | refine LeO.bind ?_ (fun _ => ?_)
set_option maxHeartbeats 8000000 in
set_option maxRecDepth 100000 in
theorem pledgelaw18_first.calls [Inhabited (Int → Addr)] (k : Nat)  (r : Bool) (w : World) (hG : GlobOK w) (h : pledgelaw18_first.f k  = some r) :
  Calls Tryd.prog 8 #[] w fun e w' => e = .returned (.bool r) ∧ Below w.heap.size w w' := by
 have hu25 := Tryd.underlying25; have hu29 := Tryd.underlying29; have HG := Aside0.mk hG; clear hG; have HB := Aside0.mk (Below.refl w.heap.size w); have H : ((some (([(⟨3, 5, 1, 0⟩ : S25)] : List (S25)) : List (S25))).bind fun y181 => ((some (([0] : List Int) : List Int)).bind fun y184 => ((lots_Greedy.f k y181 y184 0).bind fun bt188 => (if bt188.2 = true then (if (bt188.1.length : Int) = 1 then (if 0 < (bt188.1.length : Int) then (if (rd bt188.1 0) = 0 then ((lots_Most.f k y181 y184 0).bind fun t193 => (some (t193 == 15))) else (some false)) else (none)) else (some false)) else (some false))))) = some r := h; clear h; obtain ⟨y181, hy181⟩ : ∃ y_ : List (S25), y_ = (([(⟨3, 5, 1, 0⟩ : S25)] : List (S25))) := ⟨_, rfl⟩; replace H : ((some (([0] : List Int) : List Int)).bind fun y184 => ((lots_Greedy.f k y181 y184 0).bind fun bt188 => (if bt188.2 = true then (if (bt188.1.length : Int) = 1 then (if 0 < (bt188.1.length : Int) then (if (rd bt188.1 0) = 0 then ((lots_Most.f k y181 y184 0).bind fun t193 => (some (t193 == 15))) else (some false)) else (none)) else (some false)) else (some false)))) = some r := by first | (rw [hy181]; with_reducible exact H) | (have H2_ := (Option.bind_some _ _).symm.trans H; rw [hy181]; with_reducible exact H2_) | (have H2_ := (Option.bind_some _ _).symm.trans H; with_reducible exact H2_) | with_reducible exact H | (rw [hy181]; exact H) | exact H
 have Ny181 := Aside0.mk hy181; clear hy181; obtain ⟨y184, hy184⟩ : ∃ y_ : List Int, y_ = (([0] : List Int)) := ⟨_, rfl⟩; replace H : ((lots_Greedy.f k y181 y184 0).bind fun bt188 => (if bt188.2 = true then (if (bt188.1.length : Int) = 1 then (if 0 < (bt188.1.length : Int) then (if (rd bt188.1 0) = 0 then ((lots_Most.f k y181 y184 0).bind fun t193 => (some (t193 == 15))) else (some false)) else (none)) else (some false)) else (some false))) = some r := by first | (rw [hy184]; with_reducible exact H) | (have H2_ := (Option.bind_some _ _).symm.trans H; rw [hy184]; with_reducible exact H2_) | (have H2_ := (Option.bind_some _ _).symm.trans H; with_reducible exact H2_) | with_reducible exact H | (rw [hy184]; exact H) | exact H
 have Ny184 := Aside0.mk hy184; clear hy184; replace H := Option.bind_eq_some_iff.mp H; obtain ⟨⟨t188, t191⟩, A10, H⟩ := H; replace H : (if t191 = true then (if (t188.length : Int) = 1 then (if 0 < (t188.length : Int) then (if (rd t188 0) = 0 then ((lots_Most.f k y181 y184 0).bind fun t193 => (some (t193 == 15))) else (some false)) else (none)) else (some false)) else (some false)) = some r := H; have A1 := Aside0.mk A10; clear A10; by_cases c2 : t191 = true
 ·
  subst c2; have H1 : (if (t188.length : Int) = 1 then (if 0 < (t188.length : Int) then (if (rd t188 0) = 0 then ((lots_Most.f k y181 y184 0).bind fun t193 => (some (t193 == 15))) else (some false)) else (none)) else (some false)) = some r := by rw [if_pos rfl] at H; exact H
  clear H; have H := H1; clear H1; by_cases c3 : (t188.length : Int) = 1
  ·
   rw [if_pos c3] at H; have c3b0 : ((t188.length : Int) == 1) = true := beq_iff_eq.mpr c3; have c3b1 : ((t188.length : Int) != 1) = false := bne_eq_false_iff_eq.mpr c3; clear c3; by_cases c4 : 0 < (t188.length : Int)
   ·
    rw [if_pos c4] at H; have c4b0 : decide (0 < (t188.length : Int)) = true := decide_eq_true c4; have c4b1 : decide (0 < t188.length) = true := decide_eq_true (by omega); clear c4; by_cases c5 : (rd t188 0) = 0
    ·
     rw [if_pos c5] at H; have c5b0 : ((rd t188 0) == 0) = true := beq_iff_eq.mpr c5; have c5b1 : ((rd t188 0) != 0) = false := bne_eq_false_iff_eq.mpr c5; clear c5; replace H := Option.bind_eq_some_iff.mp H; obtain ⟨t193, A60, H⟩ := H; replace H : (some (t193 == 15)) = some r := H; have A6 := Aside0.mk A60; clear A60; obtain rfl := Option.some.inj H
     go_enter Tryd.func8, Tryd.ntmps8
     go_wp2_with (first | ((with_reducible refine gate_dst (N := 5) rfl ?_); (try (refine gate_guard (by rfl) ?_; dsimp only)); refine Kd.R_lit k25 _ 25 ?hg (N := 5) ?hd (xs := ([(⟨3, 5, 1, 0⟩ : S25)] : List (S25))) (inner := [.int .i64 3, .int .i64 5, .int .i64 1, .int .i64 0]) (ok := fun _ => True) (okp := fun _ => True) ?hr ?hp (fun _ hk => hk) trivial (Below.refl _ _) (Nat.le_refl _) (by simp) ?_; (case hd => rfl); (case hg => rfl); (case hr => first | (go_simp; done) | (go_simp; rfl)); (case hp => exact (Reps.c4 (show Kd.M k25 _ _ _ (⟨3, 5, 1, 0⟩ : S25) [.int .i64 3, .int .i64 5, .int .i64 1, .int .i64 0] from (k25_mkM _ _ _ (⟨3, 5, 1, 0⟩ : S25) )) (Reps.none _ _))); intro v182 w7 ho8 hb hg_ hnew_; clear hg_ hnew_; (first | rw [← Ny181.out] at ho8 | (simp only [Int.reduceToNat] at ho8; rw [← Ny181.out] at ho8)); have n0_ := Aside0.mk (Kd.R_lower ho8 (below_size (zH HB.out))); have n1_ := Aside0.mk (below_step (zH HB.out) hb); clear HB; have HO183 := n0_; have HB := n1_; clear n0_ n1_; clear hb ho8) | ((with_reducible refine gate_dst (N := 6) rfl ?_); (try (refine gate_guard (by rfl) ?_; dsimp only)); refine Kd.R_lit (Kd.int .i64) _ 2 ?hg (N := 6) ?hd (xs := ([0] : List Int)) (inner := [.int .i64 0]) (ok := fun _ => True) (okp := fun _ => True) ?hr ?hp (fun _ hk => hk) trivial (Below.refl _ _) (Nat.le_refl _) (by simp) ?_; (case hd => rfl); (case hg => rfl); (case hr => first | (go_simp; done) | (go_simp; rfl)); (case hp => exact (Reps.one (show Kd.M (Kd.int .i64) _ _ _ 0 [.int .i64 0] from rfl) (Reps.none _ _))); intro v185 w9 ho10 hb hg_ hnew_; clear hg_ hnew_; (first | rw [← Ny184.out] at ho10 | (simp only [Int.reduceToNat] at ho10; rw [← Ny184.out] at ho10)); have n0_ := Aside0.mk (Kd.R_below (zR HO183.out) hb); have n1_ := Aside0.mk (Kd.R_lower ho10 (below_size (zH HB.out))); have n2_ := Aside0.mk (below_step (zH HB.out) hb); clear HO183; clear HB; have HO183 := n0_; have HO186 := n1_; have HB := n2_; clear n0_ n1_ n2_; clear hb ho10; obtain ⟨Ao11, co11, eo11⟩ := Kd.R_slice HO186.out; subst eo11; obtain ⟨Ao12, co12, eo12⟩ := Kd.R_slice HO183.out; subst eo12) | ((with_reducible refine gate_dst (N := 1) rfl ?_); (try (refine gate_guard (by rfl) ?_; dsimp only)); refine box_event ?hg (N := 1) ?hd (cs := #[.slice none 0 0, .slice none 0 0, .int .i64 0]) (t := 29) ?hr ?_; (case hd => rfl); (case hg => rfl); (case hr => first | (go_simp; done) | (go_simp; rfl)); intro gb187 hg w13 hbox hb; have n0_ := Aside0.mk (Kd.R_below (zR HO183.out) hb); have n1_ := Aside0.mk (Kd.R_below (zR HO186.out) hb); have n2_ := Aside0.mk (below_step (zH HB.out) hb); have n3_ := Aside0.mk (hbox); have n4_ := Aside0.mk (zg hg (below_size (zH HB.out)) : w.heap.size ≤ gb187); have n5_ := Aside0.mk (zg hg (below_size (zH HB.out)) : w.heap.size ≤ gb187); clear HO183; clear HO186; clear HB; have HO183 := n0_; have HO186 := n1_; have HB := n2_; have BK187 := n3_; have GW187 := n4_; have GE187 := n5_; clear n0_ n1_ n2_ n3_ n4_ n5_; clear hb hbox hg; have hcz14_0 : w13.cell? ⟨gb187, 0, none⟩ = some (.slice none 0 0) := (blk_cell BK187.out 0).trans rfl; have hcz14_1 : w13.cell? ⟨gb187, 1, none⟩ = some (.slice none 0 0) := (blk_cell BK187.out 1).trans rfl; have hcz14_2 : w13.cell? ⟨gb187, 2, none⟩ = some (.int .i64 0) := (blk_cell BK187.out 2).trans rfl; have hfz14_0 := blk_frozen BK187.out 0; have hfz14_1 := blk_frozen BK187.out 1; have hfz14_2 := blk_frozen BK187.out 2) | ((with_reducible refine gate_callee (f := 10) rfl ?_); have n0_ : Aside0 (Kd.R k25 25 (((w13.setCell ⟨gb187, 0, none⟩ (.slice Ao12 y181.length co12)).setCell ⟨gb187, 1, none⟩ (.slice Ao11 y184.length co11)).setCell ⟨gb187, 2, none⟩ (.int .i64 0)) w.heap.size (fun _ => True) (.slice Ao12 y181.length co12) y181) := ⟨by (with_reducible repeat (first | apply Kd.R_alloc | apply Kd.R_drewN | apply Kd.R_drew)); exact Kd.R_mono (Kd.R_far (p := ⟨gb187, 2, none⟩) (Kd.R_far (p := ⟨gb187, 1, none⟩) (Kd.R_far (p := ⟨gb187, 0, none⟩) (Kd.R_types HO183.out BK187.out (by decide)) (fun _ hk => hk.2) (.slice Ao12 y181.length co12)) (fun _ hk => hk.2) (.slice Ao11 y184.length co11)) (fun _ hk => hk.2) (.int .i64 0)) (fun _ hk => trivial)⟩; have n1_ : Aside0 (Kd.R (Kd.int .i64) 2 (((w13.setCell ⟨gb187, 0, none⟩ (.slice Ao12 y181.length co12)).setCell ⟨gb187, 1, none⟩ (.slice Ao11 y184.length co11)).setCell ⟨gb187, 2, none⟩ (.int .i64 0)) w.heap.size (fun _ => True) (.slice Ao11 y184.length co11) y184) := ⟨by (with_reducible repeat (first | apply Kd.R_alloc | apply Kd.R_drewN | apply Kd.R_drew)); exact Kd.R_mono (Kd.R_far (p := ⟨gb187, 2, none⟩) (Kd.R_far (p := ⟨gb187, 1, none⟩) (Kd.R_far (p := ⟨gb187, 0, none⟩) (Kd.R_types HO186.out BK187.out (by decide)) (fun _ hk => hk.2) (.slice Ao12 y181.length co12)) (fun _ hk => hk.2) (.slice Ao11 y184.length co11)) (fun _ hk => hk.2) (.int .i64 0)) (fun _ hk => trivial)⟩; have n2_ : Aside0 ((((w13.setCell ⟨gb187, 0, none⟩ (.slice Ao12 y181.length co12)).setCell ⟨gb187, 1, none⟩ (.slice Ao11 y184.length co11)).setCell ⟨gb187, 2, none⟩ (.int .i64 0)).heap[gb187]? = some (.cells #[.slice Ao12 y181.length co12, .slice Ao11 y184.length co11, .int .i64 0] 29 (0, 0))) := ⟨by (with_reducible repeat (first | refine blk_drewN ?_ _ | refine blk_drew ?_ | refine blk_alloc ?_ _)); refine blk_put (cs := #[.slice Ao12 y181.length co12, .slice Ao11 y184.length co11, .int .i64 0]) ?_ 2 _ rfl; (with_reducible repeat (first | refine blk_drewN ?_ _ | refine blk_drew ?_ | refine blk_alloc ?_ _)); refine blk_put (cs := #[.slice Ao12 y181.length co12, .slice none 0 0, .int .i64 0]) ?_ 1 _ rfl; (with_reducible repeat (first | refine blk_drewN ?_ _ | refine blk_drew ?_ | refine blk_alloc ?_ _)); refine blk_put (cs := #[.slice none 0 0, .slice none 0 0, .int .i64 0]) ?_ 0 _ rfl; (with_reducible repeat (first | refine blk_drewN ?_ _ | refine blk_drew ?_ | refine blk_alloc ?_ _)); exact BK187.out⟩; have n3_ : Aside0 (Below w.heap.size w (((w13.setCell ⟨gb187, 0, none⟩ (.slice Ao12 y181.length co12)).setCell ⟨gb187, 1, none⟩ (.slice Ao11 y184.length co11)).setCell ⟨gb187, 2, none⟩ (.int .i64 0))) := ⟨zH1 HB.out GE187.out⟩; (try clear HO183); (try clear HO186); (try clear BK187); (try clear HB); generalize (((w13.setCell ⟨gb187, 0, none⟩ (.slice Ao12 y181.length co12)).setCell ⟨gb187, 1, none⟩ (.slice Ao11 y184.length co11)).setCell ⟨gb187, 2, none⟩ (.int .i64 0)) = w15 at n0_ n1_ n2_ n3_ ⊢; have HO183 := n0_; have HO186 := n1_; have BK187 := n2_; have HB := n3_; clear n0_ n1_ n2_ n3_; refine goesL_ (some 10) rfl rfl Tryd.func10 (by kernel_rfl) rfl #[.agg #[.slice Ao12 y181.length co12, .slice Ao11 y184.length co11, .int .i64 0]] rfl zM ?_; (with_reducible refine (lots_Greedy.calls k _ _ y181 _ _ y184 0 t188 true _ ?side1 ?side2 ?side3 ?side4 ?side5 A1.out).mono ?_); (case side1 => exact GlobOK.below HG.out (zH1 HB.out GE187.out)); (case side2 => repeat (first | exact (Kd.R_reads' HO183.out).2.2 | (with_reducible refine Kd.C_alloc ?_ _) | (with_reducible refine Kd.C_drewN ?_ _) | (with_reducible refine Kd.C_drew ?_))); (case side3 => exact (Kd.R_reads' HO183.out).2.1); (case side4 => repeat (first | exact (Kd.R_reads' HO186.out).2.2 | (with_reducible refine Kd.C_alloc ?_ _) | (with_reducible refine Kd.C_drewN ?_ _) | (with_reducible refine Kd.C_drew ?_))); (case side5 => exact (Kd.R_reads' HO186.out).2.1); rintro e w16 ⟨v189, rfl, ho0, hb⟩; refine ⟨_, rfl, ?_⟩; have n0_ := Aside0.mk (Kd.R_below (zR HO183.out) hb); have n1_ := Aside0.mk (Kd.R_below (zR HO186.out) hb); have n2_ := Aside0.mk (Kd.R_lower ho0 (below_size (zH1 HB.out GE187.out))); have n3_ := zBB BK187 hb; have n4_ := Aside0.mk (below_step (zH1 HB.out GE187.out) hb); clear HO183; clear HO186; clear BK187; clear HB; have HO183 := n0_; have HO186 := n1_; have HO190 := n2_; have BK187 := n3_; have HB := n4_; clear n0_ n1_ n2_ n3_ n4_; (try clear hb); (try clear hb2); (try clear hk); (try clear hi); (try clear ho0); obtain ⟨Ao17, co17, eo17⟩ := Kd.R_slice HO190.out; subst eo17; have p192 : 0 ≤ (0 : Int) := (by omega); have q192 : 0 < (t188.length : Int) := of_decide_eq_true zA; obtain ⟨ad192, e192, hx192_0⟩ := Kd.at_int (Kd.R_reads' HO190.out).2.2 0 p192 q192; cases e192; have qi192 : (0 < t188.length) = True := eq_true (by omega); (try rw [show ((0 : Int)).toNat = 0 from rfl] at hx192_0); (try rw [Addr.add_zero'] at hx192_0); replace p192 := eq_true p192; replace q192 := eq_true q192; have hcz18_0 : w16.cell? ⟨gb187, 0, none⟩ = some (.slice Ao12 y181.length co12) := (blk_cell BK187.out 0).trans rfl; have hcz18_1 : w16.cell? ⟨gb187, 1, none⟩ = some (.slice Ao11 y184.length co11) := (blk_cell BK187.out 1).trans rfl; have hcz18_2 : w16.cell? ⟨gb187, 2, none⟩ = some (.int .i64 0) := (blk_cell BK187.out 2).trans rfl; have hfz18_0 := blk_frozen BK187.out 0; have hfz18_1 := blk_frozen BK187.out 1; have hfz18_2 := blk_frozen BK187.out 2) | (go_at_call 13; (with_reducible refine (lots_Most.calls k _ _ y181 _ _ y184 0 t193 _ ?side1 ?side2 ?side3 ?side4 ?side5 A6.out).mono ?_); (case side1 => exact GlobOK.below HG.out (zH1 HB.out GE187.out)); (case side2 => repeat (first | exact (Kd.R_reads' HO183.out).2.2 | (with_reducible refine Kd.C_alloc ?_ _) | (with_reducible refine Kd.C_drewN ?_ _) | (with_reducible refine Kd.C_drew ?_))); (case side3 => exact (Kd.R_reads' HO183.out).2.1); (case side4 => repeat (first | exact (Kd.R_reads' HO186.out).2.2 | (with_reducible refine Kd.C_alloc ?_ _) | (with_reducible refine Kd.C_drewN ?_ _) | (with_reducible refine Kd.C_drew ?_))); (case side5 => exact (Kd.R_reads' HO186.out).2.1); rintro e w19 ⟨rfl, hb⟩; have n0_ := Aside0.mk (Kd.R_below (zR HO183.out) hb); have n1_ := Aside0.mk (Kd.R_below (zR HO186.out) hb); have n2_ := Aside0.mk (Kd.R_below (zR HO190.out) hb); have n3_ := zBB BK187 hb; have n4_ := Aside0.mk (below_step (zH1 HB.out GE187.out) hb); clear HO183; clear HO186; clear HO190; clear BK187; clear HB; have HO183 := n0_; have HO186 := n1_; have HO190 := n2_; have BK187 := n3_; have HB := n4_; clear n0_ n1_ n2_ n3_ n4_; (try clear hb); (try clear hb2); (try clear hk); (try clear hi)))
     go_ret
     exact ⟨zE, zH1 HB.out GE187.out⟩
    ·
     rw [if_neg c5] at H; have c5b0 : ((rd t188 0) == 0) = false := beq_eq_false_iff_ne.mpr c5; have c5b1 : ((rd t188 0) != 0) = true := bne_iff_ne.mpr c5; obtain rfl := Option.some.inj H
     go_enter Tryd.func8, Tryd.ntmps8
     go_wp2_with (first | ((with_reducible refine gate_dst (N := 5) rfl ?_); (try (refine gate_guard (by rfl) ?_; dsimp only)); refine Kd.R_lit k25 _ 25 ?hg (N := 5) ?hd (xs := ([(⟨3, 5, 1, 0⟩ : S25)] : List (S25))) (inner := [.int .i64 3, .int .i64 5, .int .i64 1, .int .i64 0]) (ok := fun _ => True) (okp := fun _ => True) ?hr ?hp (fun _ hk => hk) trivial (Below.refl _ _) (Nat.le_refl _) (by simp) ?_; (case hd => rfl); (case hg => rfl); (case hr => first | (go_simp; done) | (go_simp; rfl)); (case hp => exact (Reps.c4 (show Kd.M k25 _ _ _ (⟨3, 5, 1, 0⟩ : S25) [.int .i64 3, .int .i64 5, .int .i64 1, .int .i64 0] from (k25_mkM _ _ _ (⟨3, 5, 1, 0⟩ : S25) )) (Reps.none _ _))); intro v182 w20 ho21 hb hg_ hnew_; clear hg_ hnew_; (first | rw [← Ny181.out] at ho21 | (simp only [Int.reduceToNat] at ho21; rw [← Ny181.out] at ho21)); have n0_ := Aside0.mk (Kd.R_lower ho21 (below_size (zH HB.out))); have n1_ := Aside0.mk (below_step (zH HB.out) hb); clear HB; have HO183 := n0_; have HB := n1_; clear n0_ n1_; clear hb ho21) | ((with_reducible refine gate_dst (N := 6) rfl ?_); (try (refine gate_guard (by rfl) ?_; dsimp only)); refine Kd.R_lit (Kd.int .i64) _ 2 ?hg (N := 6) ?hd (xs := ([0] : List Int)) (inner := [.int .i64 0]) (ok := fun _ => True) (okp := fun _ => True) ?hr ?hp (fun _ hk => hk) trivial (Below.refl _ _) (Nat.le_refl _) (by simp) ?_; (case hd => rfl); (case hg => rfl); (case hr => first | (go_simp; done) | (go_simp; rfl)); (case hp => exact (Reps.one (show Kd.M (Kd.int .i64) _ _ _ 0 [.int .i64 0] from rfl) (Reps.none _ _))); intro v185 w22 ho23 hb hg_ hnew_; clear hg_ hnew_; (first | rw [← Ny184.out] at ho23 | (simp only [Int.reduceToNat] at ho23; rw [← Ny184.out] at ho23)); have n0_ := Aside0.mk (Kd.R_below (zR HO183.out) hb); have n1_ := Aside0.mk (Kd.R_lower ho23 (below_size (zH HB.out))); have n2_ := Aside0.mk (below_step (zH HB.out) hb); clear HO183; clear HB; have HO183 := n0_; have HO186 := n1_; have HB := n2_; clear n0_ n1_ n2_; clear hb ho23; obtain ⟨Ao24, co24, eo24⟩ := Kd.R_slice HO186.out; subst eo24; obtain ⟨Ao25, co25, eo25⟩ := Kd.R_slice HO183.out; subst eo25) | ((with_reducible refine gate_dst (N := 1) rfl ?_); (try (refine gate_guard (by rfl) ?_; dsimp only)); refine box_event ?hg (N := 1) ?hd (cs := #[.slice none 0 0, .slice none 0 0, .int .i64 0]) (t := 29) ?hr ?_; (case hd => rfl); (case hg => rfl); (case hr => first | (go_simp; done) | (go_simp; rfl)); intro gb187 hg w26 hbox hb; have n0_ := Aside0.mk (Kd.R_below (zR HO183.out) hb); have n1_ := Aside0.mk (Kd.R_below (zR HO186.out) hb); have n2_ := Aside0.mk (below_step (zH HB.out) hb); have n3_ := Aside0.mk (hbox); have n4_ := Aside0.mk (zg hg (below_size (zH HB.out)) : w.heap.size ≤ gb187); have n5_ := Aside0.mk (zg hg (below_size (zH HB.out)) : w.heap.size ≤ gb187); clear HO183; clear HO186; clear HB; have HO183 := n0_; have HO186 := n1_; have HB := n2_; have BK187 := n3_; have GW187 := n4_; have GE187 := n5_; clear n0_ n1_ n2_ n3_ n4_ n5_; clear hb hbox hg; have hcz27_0 : w26.cell? ⟨gb187, 0, none⟩ = some (.slice none 0 0) := (blk_cell BK187.out 0).trans rfl; have hcz27_1 : w26.cell? ⟨gb187, 1, none⟩ = some (.slice none 0 0) := (blk_cell BK187.out 1).trans rfl; have hcz27_2 : w26.cell? ⟨gb187, 2, none⟩ = some (.int .i64 0) := (blk_cell BK187.out 2).trans rfl; have hfz27_0 := blk_frozen BK187.out 0; have hfz27_1 := blk_frozen BK187.out 1; have hfz27_2 := blk_frozen BK187.out 2) | ((with_reducible refine gate_callee (f := 10) rfl ?_); have n0_ : Aside0 (Kd.R k25 25 (((w26.setCell ⟨gb187, 0, none⟩ (.slice Ao25 y181.length co25)).setCell ⟨gb187, 1, none⟩ (.slice Ao24 y184.length co24)).setCell ⟨gb187, 2, none⟩ (.int .i64 0)) w.heap.size (fun _ => True) (.slice Ao25 y181.length co25) y181) := ⟨by (with_reducible repeat (first | apply Kd.R_alloc | apply Kd.R_drewN | apply Kd.R_drew)); exact Kd.R_mono (Kd.R_far (p := ⟨gb187, 2, none⟩) (Kd.R_far (p := ⟨gb187, 1, none⟩) (Kd.R_far (p := ⟨gb187, 0, none⟩) (Kd.R_types HO183.out BK187.out (by decide)) (fun _ hk => hk.2) (.slice Ao25 y181.length co25)) (fun _ hk => hk.2) (.slice Ao24 y184.length co24)) (fun _ hk => hk.2) (.int .i64 0)) (fun _ hk => trivial)⟩; have n1_ : Aside0 (Kd.R (Kd.int .i64) 2 (((w26.setCell ⟨gb187, 0, none⟩ (.slice Ao25 y181.length co25)).setCell ⟨gb187, 1, none⟩ (.slice Ao24 y184.length co24)).setCell ⟨gb187, 2, none⟩ (.int .i64 0)) w.heap.size (fun _ => True) (.slice Ao24 y184.length co24) y184) := ⟨by (with_reducible repeat (first | apply Kd.R_alloc | apply Kd.R_drewN | apply Kd.R_drew)); exact Kd.R_mono (Kd.R_far (p := ⟨gb187, 2, none⟩) (Kd.R_far (p := ⟨gb187, 1, none⟩) (Kd.R_far (p := ⟨gb187, 0, none⟩) (Kd.R_types HO186.out BK187.out (by decide)) (fun _ hk => hk.2) (.slice Ao25 y181.length co25)) (fun _ hk => hk.2) (.slice Ao24 y184.length co24)) (fun _ hk => hk.2) (.int .i64 0)) (fun _ hk => trivial)⟩; have n2_ : Aside0 ((((w26.setCell ⟨gb187, 0, none⟩ (.slice Ao25 y181.length co25)).setCell ⟨gb187, 1, none⟩ (.slice Ao24 y184.length co24)).setCell ⟨gb187, 2, none⟩ (.int .i64 0)).heap[gb187]? = some (.cells #[.slice Ao25 y181.length co25, .slice Ao24 y184.length co24, .int .i64 0] 29 (0, 0))) := ⟨by (with_reducible repeat (first | refine blk_drewN ?_ _ | refine blk_drew ?_ | refine blk_alloc ?_ _)); refine blk_put (cs := #[.slice Ao25 y181.length co25, .slice Ao24 y184.length co24, .int .i64 0]) ?_ 2 _ rfl; (with_reducible repeat (first | refine blk_drewN ?_ _ | refine blk_drew ?_ | refine blk_alloc ?_ _)); refine blk_put (cs := #[.slice Ao25 y181.length co25, .slice none 0 0, .int .i64 0]) ?_ 1 _ rfl; (with_reducible repeat (first | refine blk_drewN ?_ _ | refine blk_drew ?_ | refine blk_alloc ?_ _)); refine blk_put (cs := #[.slice none 0 0, .slice none 0 0, .int .i64 0]) ?_ 0 _ rfl; (with_reducible repeat (first | refine blk_drewN ?_ _ | refine blk_drew ?_ | refine blk_alloc ?_ _)); exact BK187.out⟩; have n3_ : Aside0 (Below w.heap.size w (((w26.setCell ⟨gb187, 0, none⟩ (.slice Ao25 y181.length co25)).setCell ⟨gb187, 1, none⟩ (.slice Ao24 y184.length co24)).setCell ⟨gb187, 2, none⟩ (.int .i64 0))) := ⟨zH1 HB.out GE187.out⟩; (try clear HO183); (try clear HO186); (try clear BK187); (try clear HB); generalize (((w26.setCell ⟨gb187, 0, none⟩ (.slice Ao25 y181.length co25)).setCell ⟨gb187, 1, none⟩ (.slice Ao24 y184.length co24)).setCell ⟨gb187, 2, none⟩ (.int .i64 0)) = w28 at n0_ n1_ n2_ n3_ ⊢; have HO183 := n0_; have HO186 := n1_; have BK187 := n2_; have HB := n3_; clear n0_ n1_ n2_ n3_; refine goesL_ (some 10) rfl rfl Tryd.func10 (by kernel_rfl) rfl #[.agg #[.slice Ao25 y181.length co25, .slice Ao24 y184.length co24, .int .i64 0]] rfl zM ?_; (with_reducible refine (lots_Greedy.calls k _ _ y181 _ _ y184 0 t188 true _ ?side1 ?side2 ?side3 ?side4 ?side5 A1.out).mono ?_); (case side1 => exact GlobOK.below HG.out (zH1 HB.out GE187.out)); (case side2 => repeat (first | exact (Kd.R_reads' HO183.out).2.2 | (with_reducible refine Kd.C_alloc ?_ _) | (with_reducible refine Kd.C_drewN ?_ _) | (with_reducible refine Kd.C_drew ?_))); (case side3 => exact (Kd.R_reads' HO183.out).2.1); (case side4 => repeat (first | exact (Kd.R_reads' HO186.out).2.2 | (with_reducible refine Kd.C_alloc ?_ _) | (with_reducible refine Kd.C_drewN ?_ _) | (with_reducible refine Kd.C_drew ?_))); (case side5 => exact (Kd.R_reads' HO186.out).2.1); rintro e w29 ⟨v189, rfl, ho0, hb⟩; refine ⟨_, rfl, ?_⟩; have n0_ := Aside0.mk (Kd.R_below (zR HO183.out) hb); have n1_ := Aside0.mk (Kd.R_below (zR HO186.out) hb); have n2_ := Aside0.mk (Kd.R_lower ho0 (below_size (zH1 HB.out GE187.out))); have n3_ := zBB BK187 hb; have n4_ := Aside0.mk (below_step (zH1 HB.out GE187.out) hb); clear HO183; clear HO186; clear BK187; clear HB; have HO183 := n0_; have HO186 := n1_; have HO190 := n2_; have BK187 := n3_; have HB := n4_; clear n0_ n1_ n2_ n3_ n4_; (try clear hb); (try clear hb2); (try clear hk); (try clear hi); (try clear ho0); obtain ⟨Ao30, co30, eo30⟩ := Kd.R_slice HO190.out; subst eo30; have p192 : 0 ≤ (0 : Int) := (by omega); have q192 : 0 < (t188.length : Int) := of_decide_eq_true zA; obtain ⟨ad192, e192, hx192_0⟩ := Kd.at_int (Kd.R_reads' HO190.out).2.2 0 p192 q192; cases e192; have qi192 : (0 < t188.length) = True := eq_true (by omega); (try rw [show ((0 : Int)).toNat = 0 from rfl] at hx192_0); (try rw [Addr.add_zero'] at hx192_0); replace p192 := eq_true p192; replace q192 := eq_true q192))
     go_ret
     exact ⟨zE, zH1 HB.out GE187.out⟩
   ·
    rw [if_neg c4] at H; exact absurd H (by simp)
  ·
   rw [if_neg c3] at H; have c3b0 : ((t188.length : Int) == 1) = false := beq_eq_false_iff_ne.mpr c3; have c3b1 : ((t188.length : Int) != 1) = true := bne_iff_ne.mpr c3; obtain rfl := Option.some.inj H
   go_enter Tryd.func8, Tryd.ntmps8
   go_wp2_with (first | ((with_reducible refine gate_dst (N := 5) rfl ?_); (try (refine gate_guard (by rfl) ?_; dsimp only)); refine Kd.R_lit k25 _ 25 ?hg (N := 5) ?hd (xs := ([(⟨3, 5, 1, 0⟩ : S25)] : List (S25))) (inner := [.int .i64 3, .int .i64 5, .int .i64 1, .int .i64 0]) (ok := fun _ => True) (okp := fun _ => True) ?hr ?hp (fun _ hk => hk) trivial (Below.refl _ _) (Nat.le_refl _) (by simp) ?_; (case hd => rfl); (case hg => rfl); (case hr => first | (go_simp; done) | (go_simp; rfl)); (case hp => exact (Reps.c4 (show Kd.M k25 _ _ _ (⟨3, 5, 1, 0⟩ : S25) [.int .i64 3, .int .i64 5, .int .i64 1, .int .i64 0] from (k25_mkM _ _ _ (⟨3, 5, 1, 0⟩ : S25) )) (Reps.none _ _))); intro v182 w31 ho32 hb hg_ hnew_; clear hg_ hnew_; (first | rw [← Ny181.out] at ho32 | (simp only [Int.reduceToNat] at ho32; rw [← Ny181.out] at ho32)); have n0_ := Aside0.mk (Kd.R_lower ho32 (below_size (zH HB.out))); have n1_ := Aside0.mk (below_step (zH HB.out) hb); clear HB; have HO183 := n0_; have HB := n1_; clear n0_ n1_; clear hb ho32) | ((with_reducible refine gate_dst (N := 6) rfl ?_); (try (refine gate_guard (by rfl) ?_; dsimp only)); refine Kd.R_lit (Kd.int .i64) _ 2 ?hg (N := 6) ?hd (xs := ([0] : List Int)) (inner := [.int .i64 0]) (ok := fun _ => True) (okp := fun _ => True) ?hr ?hp (fun _ hk => hk) trivial (Below.refl _ _) (Nat.le_refl _) (by simp) ?_; (case hd => rfl); (case hg => rfl); (case hr => first | (go_simp; done) | (go_simp; rfl)); (case hp => exact (Reps.one (show Kd.M (Kd.int .i64) _ _ _ 0 [.int .i64 0] from rfl) (Reps.none _ _))); intro v185 w33 ho34 hb hg_ hnew_; clear hg_ hnew_; (first | rw [← Ny184.out] at ho34 | (simp only [Int.reduceToNat] at ho34; rw [← Ny184.out] at ho34)); have n0_ := Aside0.mk (Kd.R_below (zR HO183.out) hb); have n1_ := Aside0.mk (Kd.R_lower ho34 (below_size (zH HB.out))); have n2_ := Aside0.mk (below_step (zH HB.out) hb); clear HO183; clear HB; have HO183 := n0_; have HO186 := n1_; have HB := n2_; clear n0_ n1_ n2_; clear hb ho34; obtain ⟨Ao35, co35, eo35⟩ := Kd.R_slice HO186.out; subst eo35; obtain ⟨Ao36, co36, eo36⟩ := Kd.R_slice HO183.out; subst eo36) | ((with_reducible refine gate_dst (N := 1) rfl ?_); (try (refine gate_guard (by rfl) ?_; dsimp only)); refine box_event ?hg (N := 1) ?hd (cs := #[.slice none 0 0, .slice none 0 0, .int .i64 0]) (t := 29) ?hr ?_; (case hd => rfl); (case hg => rfl); (case hr => first | (go_simp; done) | (go_simp; rfl)); intro gb187 hg w37 hbox hb; have n0_ := Aside0.mk (Kd.R_below (zR HO183.out) hb); have n1_ := Aside0.mk (Kd.R_below (zR HO186.out) hb); have n2_ := Aside0.mk (below_step (zH HB.out) hb); have n3_ := Aside0.mk (hbox); have n4_ := Aside0.mk (zg hg (below_size (zH HB.out)) : w.heap.size ≤ gb187); have n5_ := Aside0.mk (zg hg (below_size (zH HB.out)) : w.heap.size ≤ gb187); clear HO183; clear HO186; clear HB; have HO183 := n0_; have HO186 := n1_; have HB := n2_; have BK187 := n3_; have GW187 := n4_; have GE187 := n5_; clear n0_ n1_ n2_ n3_ n4_ n5_; clear hb hbox hg; have hcz38_0 : w37.cell? ⟨gb187, 0, none⟩ = some (.slice none 0 0) := (blk_cell BK187.out 0).trans rfl; have hcz38_1 : w37.cell? ⟨gb187, 1, none⟩ = some (.slice none 0 0) := (blk_cell BK187.out 1).trans rfl; have hcz38_2 : w37.cell? ⟨gb187, 2, none⟩ = some (.int .i64 0) := (blk_cell BK187.out 2).trans rfl; have hfz38_0 := blk_frozen BK187.out 0; have hfz38_1 := blk_frozen BK187.out 1; have hfz38_2 := blk_frozen BK187.out 2) | ((with_reducible refine gate_callee (f := 10) rfl ?_); have n0_ : Aside0 (Kd.R k25 25 (((w37.setCell ⟨gb187, 0, none⟩ (.slice Ao36 y181.length co36)).setCell ⟨gb187, 1, none⟩ (.slice Ao35 y184.length co35)).setCell ⟨gb187, 2, none⟩ (.int .i64 0)) w.heap.size (fun _ => True) (.slice Ao36 y181.length co36) y181) := ⟨by (with_reducible repeat (first | apply Kd.R_alloc | apply Kd.R_drewN | apply Kd.R_drew)); exact Kd.R_mono (Kd.R_far (p := ⟨gb187, 2, none⟩) (Kd.R_far (p := ⟨gb187, 1, none⟩) (Kd.R_far (p := ⟨gb187, 0, none⟩) (Kd.R_types HO183.out BK187.out (by decide)) (fun _ hk => hk.2) (.slice Ao36 y181.length co36)) (fun _ hk => hk.2) (.slice Ao35 y184.length co35)) (fun _ hk => hk.2) (.int .i64 0)) (fun _ hk => trivial)⟩; have n1_ : Aside0 (Kd.R (Kd.int .i64) 2 (((w37.setCell ⟨gb187, 0, none⟩ (.slice Ao36 y181.length co36)).setCell ⟨gb187, 1, none⟩ (.slice Ao35 y184.length co35)).setCell ⟨gb187, 2, none⟩ (.int .i64 0)) w.heap.size (fun _ => True) (.slice Ao35 y184.length co35) y184) := ⟨by (with_reducible repeat (first | apply Kd.R_alloc | apply Kd.R_drewN | apply Kd.R_drew)); exact Kd.R_mono (Kd.R_far (p := ⟨gb187, 2, none⟩) (Kd.R_far (p := ⟨gb187, 1, none⟩) (Kd.R_far (p := ⟨gb187, 0, none⟩) (Kd.R_types HO186.out BK187.out (by decide)) (fun _ hk => hk.2) (.slice Ao36 y181.length co36)) (fun _ hk => hk.2) (.slice Ao35 y184.length co35)) (fun _ hk => hk.2) (.int .i64 0)) (fun _ hk => trivial)⟩; have n2_ : Aside0 ((((w37.setCell ⟨gb187, 0, none⟩ (.slice Ao36 y181.length co36)).setCell ⟨gb187, 1, none⟩ (.slice Ao35 y184.length co35)).setCell ⟨gb187, 2, none⟩ (.int .i64 0)).heap[gb187]? = some (.cells #[.slice Ao36 y181.length co36, .slice Ao35 y184.length co35, .int .i64 0] 29 (0, 0))) := ⟨by (with_reducible repeat (first | refine blk_drewN ?_ _ | refine blk_drew ?_ | refine blk_alloc ?_ _)); refine blk_put (cs := #[.slice Ao36 y181.length co36, .slice Ao35 y184.length co35, .int .i64 0]) ?_ 2 _ rfl; (with_reducible repeat (first | refine blk_drewN ?_ _ | refine blk_drew ?_ | refine blk_alloc ?_ _)); refine blk_put (cs := #[.slice Ao36 y181.length co36, .slice none 0 0, .int .i64 0]) ?_ 1 _ rfl; (with_reducible repeat (first | refine blk_drewN ?_ _ | refine blk_drew ?_ | refine blk_alloc ?_ _)); refine blk_put (cs := #[.slice none 0 0, .slice none 0 0, .int .i64 0]) ?_ 0 _ rfl; (with_reducible repeat (first | refine blk_drewN ?_ _ | refine blk_drew ?_ | refine blk_alloc ?_ _)); exact BK187.out⟩; have n3_ : Aside0 (Below w.heap.size w (((w37.setCell ⟨gb187, 0, none⟩ (.slice Ao36 y181.length co36)).setCell ⟨gb187, 1, none⟩ (.slice Ao35 y184.length co35)).setCell ⟨gb187, 2, none⟩ (.int .i64 0))) := ⟨zH1 HB.out GE187.out⟩; (try clear HO183); (try clear HO186); (try clear BK187); (try clear HB); generalize (((w37.setCell ⟨gb187, 0, none⟩ (.slice Ao36 y181.length co36)).setCell ⟨gb187, 1, none⟩ (.slice Ao35 y184.length co35)).setCell ⟨gb187, 2, none⟩ (.int .i64 0)) = w39 at n0_ n1_ n2_ n3_ ⊢; have HO183 := n0_; have HO186 := n1_; have BK187 := n2_; have HB := n3_; clear n0_ n1_ n2_ n3_; refine goesL_ (some 10) rfl rfl Tryd.func10 (by kernel_rfl) rfl #[.agg #[.slice Ao36 y181.length co36, .slice Ao35 y184.length co35, .int .i64 0]] rfl zM ?_; (with_reducible refine (lots_Greedy.calls k _ _ y181 _ _ y184 0 t188 true _ ?side1 ?side2 ?side3 ?side4 ?side5 A1.out).mono ?_); (case side1 => exact GlobOK.below HG.out (zH1 HB.out GE187.out)); (case side2 => repeat (first | exact (Kd.R_reads' HO183.out).2.2 | (with_reducible refine Kd.C_alloc ?_ _) | (with_reducible refine Kd.C_drewN ?_ _) | (with_reducible refine Kd.C_drew ?_))); (case side3 => exact (Kd.R_reads' HO183.out).2.1); (case side4 => repeat (first | exact (Kd.R_reads' HO186.out).2.2 | (with_reducible refine Kd.C_alloc ?_ _) | (with_reducible refine Kd.C_drewN ?_ _) | (with_reducible refine Kd.C_drew ?_))); (case side5 => exact (Kd.R_reads' HO186.out).2.1); rintro e w40 ⟨v189, rfl, ho0, hb⟩; refine ⟨_, rfl, ?_⟩; have n0_ := Aside0.mk (Kd.R_below (zR HO183.out) hb); have n1_ := Aside0.mk (Kd.R_below (zR HO186.out) hb); have n2_ := Aside0.mk (Kd.R_lower ho0 (below_size (zH1 HB.out GE187.out))); have n3_ := zBB BK187 hb; have n4_ := Aside0.mk (below_step (zH1 HB.out GE187.out) hb); clear HO183; clear HO186; clear BK187; clear HB; have HO183 := n0_; have HO186 := n1_; have HO190 := n2_; have BK187 := n3_; have HB := n4_; clear n0_ n1_ n2_ n3_ n4_; (try clear hb); (try clear hb2); (try clear hk); (try clear hi); (try clear ho0); obtain ⟨Ao41, co41, eo41⟩ := Kd.R_slice HO190.out; subst eo41))
   go_ret
   exact ⟨zE, zH1 HB.out GE187.out⟩
 ·
  replace c2 := Bool.eq_false_iff.mpr c2; subst c2; have H1 : (some false) = some r := by rw [if_neg (show ¬ (false = true) by decide)] at H; exact H
  clear H; have H := H1; clear H1; obtain rfl := Option.some.inj H
  go_enter Tryd.func8, Tryd.ntmps8
  go_wp2_with (first | ((with_reducible refine gate_dst (N := 5) rfl ?_); (try (refine gate_guard (by rfl) ?_; dsimp only)); refine Kd.R_lit k25 _ 25 ?hg (N := 5) ?hd (xs := ([(⟨3, 5, 1, 0⟩ : S25)] : List (S25))) (inner := [.int .i64 3, .int .i64 5, .int .i64 1, .int .i64 0]) (ok := fun _ => True) (okp := fun _ => True) ?hr ?hp (fun _ hk => hk) trivial (Below.refl _ _) (Nat.le_refl _) (by simp) ?_; (case hd => rfl); (case hg => rfl); (case hr => first | (go_simp; done) | (go_simp; rfl)); (case hp => exact (Reps.c4 (show Kd.M k25 _ _ _ (⟨3, 5, 1, 0⟩ : S25) [.int .i64 3, .int .i64 5, .int .i64 1, .int .i64 0] from (k25_mkM _ _ _ (⟨3, 5, 1, 0⟩ : S25) )) (Reps.none _ _))); intro v182 w42 ho43 hb hg_ hnew_; clear hg_ hnew_; (first | rw [← Ny181.out] at ho43 | (simp only [Int.reduceToNat] at ho43; rw [← Ny181.out] at ho43)); have n0_ := Aside0.mk (Kd.R_lower ho43 (below_size (zH HB.out))); have n1_ := Aside0.mk (below_step (zH HB.out) hb); clear HB; have HO183 := n0_; have HB := n1_; clear n0_ n1_; clear hb ho43) | ((with_reducible refine gate_dst (N := 6) rfl ?_); (try (refine gate_guard (by rfl) ?_; dsimp only)); refine Kd.R_lit (Kd.int .i64) _ 2 ?hg (N := 6) ?hd (xs := ([0] : List Int)) (inner := [.int .i64 0]) (ok := fun _ => True) (okp := fun _ => True) ?hr ?hp (fun _ hk => hk) trivial (Below.refl _ _) (Nat.le_refl _) (by simp) ?_; (case hd => rfl); (case hg => rfl); (case hr => first | (go_simp; done) | (go_simp; rfl)); (case hp => exact (Reps.one (show Kd.M (Kd.int .i64) _ _ _ 0 [.int .i64 0] from rfl) (Reps.none _ _))); intro v185 w44 ho45 hb hg_ hnew_; clear hg_ hnew_; (first | rw [← Ny184.out] at ho45 | (simp only [Int.reduceToNat] at ho45; rw [← Ny184.out] at ho45)); have n0_ := Aside0.mk (Kd.R_below (zR HO183.out) hb); have n1_ := Aside0.mk (Kd.R_lower ho45 (below_size (zH HB.out))); have n2_ := Aside0.mk (below_step (zH HB.out) hb); clear HO183; clear HB; have HO183 := n0_; have HO186 := n1_; have HB := n2_; clear n0_ n1_ n2_; clear hb ho45; obtain ⟨Ao46, co46, eo46⟩ := Kd.R_slice HO186.out; subst eo46; obtain ⟨Ao47, co47, eo47⟩ := Kd.R_slice HO183.out; subst eo47) | ((with_reducible refine gate_dst (N := 1) rfl ?_); (try (refine gate_guard (by rfl) ?_; dsimp only)); refine box_event ?hg (N := 1) ?hd (cs := #[.slice none 0 0, .slice none 0 0, .int .i64 0]) (t := 29) ?hr ?_; (case hd => rfl); (case hg => rfl); (case hr => first | (go_simp; done) | (go_simp; rfl)); intro gb187 hg w48 hbox hb; have n0_ := Aside0.mk (Kd.R_below (zR HO183.out) hb); have n1_ := Aside0.mk (Kd.R_below (zR HO186.out) hb); have n2_ := Aside0.mk (below_step (zH HB.out) hb); have n3_ := Aside0.mk (hbox); have n4_ := Aside0.mk (zg hg (below_size (zH HB.out)) : w.heap.size ≤ gb187); have n5_ := Aside0.mk (zg hg (below_size (zH HB.out)) : w.heap.size ≤ gb187); clear HO183; clear HO186; clear HB; have HO183 := n0_; have HO186 := n1_; have HB := n2_; have BK187 := n3_; have GW187 := n4_; have GE187 := n5_; clear n0_ n1_ n2_ n3_ n4_ n5_; clear hb hbox hg; have hcz49_0 : w48.cell? ⟨gb187, 0, none⟩ = some (.slice none 0 0) := (blk_cell BK187.out 0).trans rfl; have hcz49_1 : w48.cell? ⟨gb187, 1, none⟩ = some (.slice none 0 0) := (blk_cell BK187.out 1).trans rfl; have hcz49_2 : w48.cell? ⟨gb187, 2, none⟩ = some (.int .i64 0) := (blk_cell BK187.out 2).trans rfl; have hfz49_0 := blk_frozen BK187.out 0; have hfz49_1 := blk_frozen BK187.out 1; have hfz49_2 := blk_frozen BK187.out 2) | ((with_reducible refine gate_callee (f := 10) rfl ?_); have n0_ : Aside0 (Kd.R k25 25 (((w48.setCell ⟨gb187, 0, none⟩ (.slice Ao47 y181.length co47)).setCell ⟨gb187, 1, none⟩ (.slice Ao46 y184.length co46)).setCell ⟨gb187, 2, none⟩ (.int .i64 0)) w.heap.size (fun _ => True) (.slice Ao47 y181.length co47) y181) := ⟨by (with_reducible repeat (first | apply Kd.R_alloc | apply Kd.R_drewN | apply Kd.R_drew)); exact Kd.R_mono (Kd.R_far (p := ⟨gb187, 2, none⟩) (Kd.R_far (p := ⟨gb187, 1, none⟩) (Kd.R_far (p := ⟨gb187, 0, none⟩) (Kd.R_types HO183.out BK187.out (by decide)) (fun _ hk => hk.2) (.slice Ao47 y181.length co47)) (fun _ hk => hk.2) (.slice Ao46 y184.length co46)) (fun _ hk => hk.2) (.int .i64 0)) (fun _ hk => trivial)⟩; have n1_ : Aside0 (Kd.R (Kd.int .i64) 2 (((w48.setCell ⟨gb187, 0, none⟩ (.slice Ao47 y181.length co47)).setCell ⟨gb187, 1, none⟩ (.slice Ao46 y184.length co46)).setCell ⟨gb187, 2, none⟩ (.int .i64 0)) w.heap.size (fun _ => True) (.slice Ao46 y184.length co46) y184) := ⟨by (with_reducible repeat (first | apply Kd.R_alloc | apply Kd.R_drewN | apply Kd.R_drew)); exact Kd.R_mono (Kd.R_far (p := ⟨gb187, 2, none⟩) (Kd.R_far (p := ⟨gb187, 1, none⟩) (Kd.R_far (p := ⟨gb187, 0, none⟩) (Kd.R_types HO186.out BK187.out (by decide)) (fun _ hk => hk.2) (.slice Ao47 y181.length co47)) (fun _ hk => hk.2) (.slice Ao46 y184.length co46)) (fun _ hk => hk.2) (.int .i64 0)) (fun _ hk => trivial)⟩; have n2_ : Aside0 ((((w48.setCell ⟨gb187, 0, none⟩ (.slice Ao47 y181.length co47)).setCell ⟨gb187, 1, none⟩ (.slice Ao46 y184.length co46)).setCell ⟨gb187, 2, none⟩ (.int .i64 0)).heap[gb187]? = some (.cells #[.slice Ao47 y181.length co47, .slice Ao46 y184.length co46, .int .i64 0] 29 (0, 0))) := ⟨by (with_reducible repeat (first | refine blk_drewN ?_ _ | refine blk_drew ?_ | refine blk_alloc ?_ _)); refine blk_put (cs := #[.slice Ao47 y181.length co47, .slice Ao46 y184.length co46, .int .i64 0]) ?_ 2 _ rfl; (with_reducible repeat (first | refine blk_drewN ?_ _ | refine blk_drew ?_ | refine blk_alloc ?_ _)); refine blk_put (cs := #[.slice Ao47 y181.length co47, .slice none 0 0, .int .i64 0]) ?_ 1 _ rfl; (with_reducible repeat (first | refine blk_drewN ?_ _ | refine blk_drew ?_ | refine blk_alloc ?_ _)); refine blk_put (cs := #[.slice none 0 0, .slice none 0 0, .int .i64 0]) ?_ 0 _ rfl; (with_reducible repeat (first | refine blk_drewN ?_ _ | refine blk_drew ?_ | refine blk_alloc ?_ _)); exact BK187.out⟩; have n3_ : Aside0 (Below w.heap.size w (((w48.setCell ⟨gb187, 0, none⟩ (.slice Ao47 y181.length co47)).setCell ⟨gb187, 1, none⟩ (.slice Ao46 y184.length co46)).setCell ⟨gb187, 2, none⟩ (.int .i64 0))) := ⟨zH1 HB.out GE187.out⟩; (try clear HO183); (try clear HO186); (try clear BK187); (try clear HB); generalize (((w48.setCell ⟨gb187, 0, none⟩ (.slice Ao47 y181.length co47)).setCell ⟨gb187, 1, none⟩ (.slice Ao46 y184.length co46)).setCell ⟨gb187, 2, none⟩ (.int .i64 0)) = w50 at n0_ n1_ n2_ n3_ ⊢; have HO183 := n0_; have HO186 := n1_; have BK187 := n2_; have HB := n3_; clear n0_ n1_ n2_ n3_; refine goesL_ (some 10) rfl rfl Tryd.func10 (by kernel_rfl) rfl #[.agg #[.slice Ao47 y181.length co47, .slice Ao46 y184.length co46, .int .i64 0]] rfl zM ?_; (with_reducible refine (lots_Greedy.calls k _ _ y181 _ _ y184 0 t188 false _ ?side1 ?side2 ?side3 ?side4 ?side5 A1.out).mono ?_); (case side1 => exact GlobOK.below HG.out (zH1 HB.out GE187.out)); (case side2 => repeat (first | exact (Kd.R_reads' HO183.out).2.2 | (with_reducible refine Kd.C_alloc ?_ _) | (with_reducible refine Kd.C_drewN ?_ _) | (with_reducible refine Kd.C_drew ?_))); (case side3 => exact (Kd.R_reads' HO183.out).2.1); (case side4 => repeat (first | exact (Kd.R_reads' HO186.out).2.2 | (with_reducible refine Kd.C_alloc ?_ _) | (with_reducible refine Kd.C_drewN ?_ _) | (with_reducible refine Kd.C_drew ?_))); (case side5 => exact (Kd.R_reads' HO186.out).2.1); rintro e w51 ⟨v189, rfl, ho0, hb⟩; refine ⟨_, rfl, ?_⟩; have n0_ := Aside0.mk (Kd.R_below (zR HO183.out) hb); have n1_ := Aside0.mk (Kd.R_below (zR HO186.out) hb); have n2_ := Aside0.mk (Kd.R_lower ho0 (below_size (zH1 HB.out GE187.out))); have n3_ := zBB BK187 hb; have n4_ := Aside0.mk (below_step (zH1 HB.out GE187.out) hb); clear HO183; clear HO186; clear BK187; clear HB; have HO183 := n0_; have HO186 := n1_; have HO190 := n2_; have BK187 := n3_; have HB := n4_; clear n0_ n1_ n2_ n3_ n4_; (try clear hb); (try clear hb2); (try clear hk); (try clear hi); (try clear ho0)))
  go_ret
  exact ⟨zE, zH1 HB.out GE187.out⟩

/-! ### pledgelaw18_light: function 11 -/
def pledgelaw18_light.f (l0_0 : List (S25)) (l0_1 : List Int) (a0_2 : Int) : Option (Bool) := if (l0_0.length : Int) ≤ 20 then (some (decide ((l0_1.length : Int) ≤ 20))) else (some false)
set_option maxHeartbeats 8000000 in
set_option maxRecDepth 100000 in
theorem pledgelaw18_light.calls [Inhabited (Int → Addr)] (A0_0 : Option Addr) (c0_0 : Nat) (l0_0 : List (S25)) (A0_1 : Option Addr) (c0_1 : Nat) (l0_1 : List Int) (a0_2 : Int) (r : Bool) (w : World) (hr0_0 : Kd.C k25 w A0_0 l0_0.length l0_0) (hc0_0 : l0_0.length ≤ c0_0) (hr0_1 : Kd.C (Kd.int .i64) w A0_1 l0_1.length l0_1) (hc0_1 : l0_1.length ≤ c0_1) (h : pledgelaw18_light.f l0_0 l0_1 a0_2 = some r) :
    Calls Tryd.prog 11 #[.agg #[.slice A0_0 l0_0.length c0_0, .slice A0_1 l0_1.length c0_1, .int .i64 a0_2]] w fun e w' => e = .returned (.bool r) ∧ Below w.heap.size w w' := by
  have hu29 := Tryd.underlying29; have HR0_0 := Aside0.mk hr0_0; have HC0_0 := Aside0.mk hc0_0; clear hr0_0 hc0_0; have HR0_1 := Aside0.mk hr0_1; have HC0_1 := Aside0.mk hc0_1; clear hr0_1 hc0_1; have HB := Aside0.mk (Below.refl w.heap.size w); have H : (if (l0_0.length : Int) ≤ 20 then (some (decide ((l0_1.length : Int) ≤ 20))) else (some false)) = some r := h; clear h; by_cases c2 : (l0_0.length : Int) ≤ 20
  · rw [if_pos c2] at H
    have c2b0 : decide ((l0_0.length : Int) ≤ 20) = true := decide_eq_true c2; have c2b1 : decide (l0_0.length ≤ 20) = true := decide_eq_true (by omega); clear c2; obtain rfl := Option.some.inj H
    go_enter Tryd.func11, Tryd.ntmps11
    go_wp2_with (first | ((with_reducible refine gate_dst (N := 1) rfl ?_); (try (refine gate_guard (by rfl) ?_; dsimp only)); refine box_event ?hg (N := 1) ?hd (cs := #[.slice A0_0 l0_0.length c0_0, .slice A0_1 l0_1.length c0_1, .int .i64 a0_2]) (t := 29) ?hr ?_; (case hd => rfl); (case hg => rfl); (case hr => first | (go_simp; done) | (go_simp; rfl)); intro gb194 hg w3 hbox hb; have n0_ := Aside0.mk (below_step (zH HB.out) hb); have n1_ := Aside0.mk (hbox); have n2_ := Aside0.mk (zg hg (below_size (zH HB.out)) : w.heap.size ≤ gb194); have n3_ := Aside0.mk (zg hg (below_size (zH HB.out)) : w.heap.size ≤ gb194); clear HB; have HB := n0_; have BK194 := n1_; have GW194 := n2_; have GE194 := n3_; clear n0_ n1_ n2_ n3_; clear hb hbox hg; have hcz4_0 : w3.cell? ⟨gb194, 0, none⟩ = some (.slice A0_0 l0_0.length c0_0) := (blk_cell BK194.out 0).trans rfl; have hcz4_1 : w3.cell? ⟨gb194, 1, none⟩ = some (.slice A0_1 l0_1.length c0_1) := (blk_cell BK194.out 1).trans rfl; have hcz4_2 : w3.cell? ⟨gb194, 2, none⟩ = some (.int .i64 a0_2) := (blk_cell BK194.out 2).trans rfl; have hfz4_0 := blk_frozen BK194.out 0; have hfz4_1 := blk_frozen BK194.out 1; have hfz4_2 := blk_frozen BK194.out 2))
    go_ret
    exact ⟨zE, zH1 HB.out GE194.out⟩
  · rw [if_neg c2] at H
    have c2b0 : decide ((l0_0.length : Int) ≤ 20) = false := decide_eq_false c2; have c2b1 : decide (l0_0.length ≤ 20) = false := decide_eq_false (by omega); clear c2; obtain rfl := Option.some.inj H
    go_enter Tryd.func11, Tryd.ntmps11
    go_wp2_with (first | ((with_reducible refine gate_dst (N := 1) rfl ?_); (try (refine gate_guard (by rfl) ?_; dsimp only)); refine box_event ?hg (N := 1) ?hd (cs := #[.slice A0_0 l0_0.length c0_0, .slice A0_1 l0_1.length c0_1, .int .i64 a0_2]) (t := 29) ?hr ?_; (case hd => rfl); (case hg => rfl); (case hr => first | (go_simp; done) | (go_simp; rfl)); intro gb194 hg w5 hbox hb; have n0_ := Aside0.mk (below_step (zH HB.out) hb); have n1_ := Aside0.mk (hbox); have n2_ := Aside0.mk (zg hg (below_size (zH HB.out)) : w.heap.size ≤ gb194); have n3_ := Aside0.mk (zg hg (below_size (zH HB.out)) : w.heap.size ≤ gb194); clear HB; have HB := n0_; have BK194 := n1_; have GW194 := n2_; have GE194 := n3_; clear n0_ n1_ n2_ n3_; clear hb hbox hg; have hcz6_0 : w5.cell? ⟨gb194, 0, none⟩ = some (.slice A0_0 l0_0.length c0_0) := (blk_cell BK194.out 0).trans rfl; have hcz6_1 : w5.cell? ⟨gb194, 1, none⟩ = some (.slice A0_1 l0_1.length c0_1) := (blk_cell BK194.out 1).trans rfl; have hcz6_2 : w5.cell? ⟨gb194, 2, none⟩ = some (.int .i64 a0_2) := (blk_cell BK194.out 2).trans rfl; have hfz6_0 := blk_frozen BK194.out 0; have hfz6_1 := blk_frozen BK194.out 1; have hfz6_2 := blk_frozen BK194.out 2))
    go_ret
    exact ⟨zE, zH1 HB.out GE194.out⟩

/-! ### lots_Fits: function 14 -/
def lots_Fits.f (k : Nat) (l0_0 : List (S25)) (l0_1 : List Int) (a0_2 : Int) (l1 : List Int) : Option (Bool) := (lots_Worth.f k l0_0 l0_1 a0_2 l1).bind fun bt196 => (if bt196.2 = true then (some (decide (bt196.1 ≥ a0_2))) else (some false))
theorem lots_Fits.mono : ∀ a0 a1 a2 a3 k, LeO (lots_Fits.f k a0 a1 a2 a3) (lots_Fits.f (k + 1) a0 a1 a2 a3) := by
  intro a0 a1 a2 a3 k; unfold lots_Fits.f
  repeat' first
      | (with_reducible exact lots_Worth.mono _ _ _ _ _)
      | (with_reducible exact LeO.refl _)
      | (with_reducible exact LeO.none _)
      | (with_reducible refine LeO.ite ?_ ?_)
      | (with_reducible refine LeO.bind ?_ (fun _ => ?_))
      | exact lots_Worth.mono _ _ _ _ _
      | exact LeO.none _
      | refine LeO.ite ?_ ?_
      | refine LeO.bind ?_ (fun _ => ?_)
set_option maxHeartbeats 8000000 in
set_option maxRecDepth 100000 in
theorem lots_Fits.calls [Inhabited (Int → Addr)] (k : Nat) (A0_0 : Option Addr) (c0_0 : Nat) (l0_0 : List (S25)) (A0_1 : Option Addr) (c0_1 : Nat) (l0_1 : List Int) (a0_2 : Int) (A1 : Option Addr) (c1 : Nat) (l1 : List Int) (r : Bool) (w : World) (hG : GlobOK w) (hr0_0 : Kd.C k25 w A0_0 l0_0.length l0_0) (hc0_0 : l0_0.length ≤ c0_0) (hr0_1 : Kd.C (Kd.int .i64) w A0_1 l0_1.length l0_1) (hc0_1 : l0_1.length ≤ c0_1) (hr1 : Kd.C (Kd.int .i64) w A1 l1.length l1) (hc1 : l1.length ≤ c1) (h : lots_Fits.f k l0_0 l0_1 a0_2 l1 = some r) :
    Calls Tryd.prog 14 #[.agg #[.slice A0_0 l0_0.length c0_0, .slice A0_1 l0_1.length c0_1, .int .i64 a0_2], .slice A1 l1.length c1] w fun e w' => e = .returned (.bool r) ∧ Below w.heap.size w w' := by
  have hu29 := Tryd.underlying29; have HG := Aside0.mk hG; clear hG; have HR0_0 := Aside0.mk hr0_0; have HC0_0 := Aside0.mk hc0_0; clear hr0_0 hc0_0; have HR0_1 := Aside0.mk hr0_1; have HC0_1 := Aside0.mk hc0_1; clear hr0_1 hc0_1; have HR1 := Aside0.mk hr1; have HC1 := Aside0.mk hc1; clear hr1 hc1; have HB := Aside0.mk (Below.refl w.heap.size w); have H : ((lots_Worth.f k l0_0 l0_1 a0_2 l1).bind fun bt196 => (if bt196.2 = true then (some (decide (bt196.1 ≥ a0_2))) else (some false))) = some r := h; clear h; replace H := Option.bind_eq_some_iff.mp H; obtain ⟨⟨t196, t197⟩, A30, H⟩ := H; replace H : (if t197 = true then (some (decide (t196 ≥ a0_2))) else (some false)) = some r := H; have A3 := Aside0.mk A30; clear A30; by_cases c4 : t197 = true
  · subst c4
    have H1 : (some (decide (t196 ≥ a0_2))) = some r := by rw [if_pos rfl] at H; exact H
    clear H; have H := H1; clear H1; obtain rfl := Option.some.inj H
    go_enter Tryd.func14, Tryd.ntmps14
    go_wp2_with (first | ((with_reducible refine gate_dst (N := 2) rfl ?_); refine box_event ?hg (N := 2) ?hd (cs := #[.slice A0_0 l0_0.length c0_0, .slice A0_1 l0_1.length c0_1, .int .i64 a0_2]) (t := 29) ?hr ?_; (case hd => rfl); (case hg => rfl); (case hr => first | (go_simp; done) | (go_simp; rfl)); intro gb195 hg w5 hbox hb; have n0_ := Aside0.mk (below_step (zH HB.out) hb); have n1_ := Aside0.mk (hbox); have n2_ := Aside0.mk (zg hg (below_size (zH HB.out)) : w.heap.size ≤ gb195); have n3_ := Aside0.mk (zg hg (below_size (zH HB.out)) : w.heap.size ≤ gb195); clear HB; have HB := n0_; have BK195 := n1_; have GW195 := n2_; have GE195 := n3_; clear n0_ n1_ n2_ n3_; clear hb hbox hg; have hcz6_0 : w5.cell? ⟨gb195, 0, none⟩ = some (.slice A0_0 l0_0.length c0_0) := (blk_cell BK195.out 0).trans rfl; have hcz6_1 : w5.cell? ⟨gb195, 1, none⟩ = some (.slice A0_1 l0_1.length c0_1) := (blk_cell BK195.out 1).trans rfl; have hcz6_2 : w5.cell? ⟨gb195, 2, none⟩ = some (.int .i64 a0_2) := (blk_cell BK195.out 2).trans rfl; have hfz6_0 := blk_frozen BK195.out 0; have hfz6_1 := blk_frozen BK195.out 1; have hfz6_2 := blk_frozen BK195.out 2) | ((with_reducible refine gate_callee (f := 16) rfl ?_); refine goesL_ (some 10) rfl rfl Tryd.func16 (by kernel_rfl) rfl #[.agg #[.slice A0_0 l0_0.length c0_0, .slice A0_1 l0_1.length c0_1, .int .i64 a0_2], .slice A1 l1.length c1] rfl zM ?_; (with_reducible refine (lots_Worth.calls k _ _ l0_0 _ _ l0_1 a0_2 _ _ l1 t196 true _ ?side1 ?side2 ?side3 ?side4 ?side5 ?side6 ?side7 A3.out).mono ?_); (case side1 => exact GlobOK.below HG.out (zH1 HB.out GE195.out)); (case side2 => exact zC HR0_0.out HB.out); (case side3 => exact HC0_0.out); (case side4 => exact zC HR0_1.out HB.out); (case side5 => exact HC0_1.out); (case side6 => exact zC HR1.out HB.out); (case side7 => exact HC1.out); rintro e w7 ⟨rfl, hb⟩; refine ⟨_, rfl, ?_⟩; have n0_ := zBB BK195 hb; have n1_ := Aside0.mk (below_step (zH1 HB.out GE195.out) hb); clear BK195; clear HB; have BK195 := n0_; have HB := n1_; clear n0_ n1_; (try clear hb); (try clear hb2); (try clear hk); (try clear hi); have hcz8_0 : w7.cell? ⟨gb195, 0, none⟩ = some (.slice A0_0 l0_0.length c0_0) := (blk_cell BK195.out 0).trans rfl; have hcz8_1 : w7.cell? ⟨gb195, 1, none⟩ = some (.slice A0_1 l0_1.length c0_1) := (blk_cell BK195.out 1).trans rfl; have hcz8_2 : w7.cell? ⟨gb195, 2, none⟩ = some (.int .i64 a0_2) := (blk_cell BK195.out 2).trans rfl; have hfz8_0 := blk_frozen BK195.out 0; have hfz8_1 := blk_frozen BK195.out 1; have hfz8_2 := blk_frozen BK195.out 2))
    go_ret
    exact ⟨zE, zH1 HB.out GE195.out⟩
  · replace c4 := Bool.eq_false_iff.mpr c4
    subst c4; have H1 : (some false) = some r := by rw [if_neg (show ¬ (false = true) by decide)] at H; exact H
    clear H; have H := H1; clear H1; obtain rfl := Option.some.inj H
    go_enter Tryd.func14, Tryd.ntmps14
    go_wp2_with (first | ((with_reducible refine gate_dst (N := 2) rfl ?_); refine box_event ?hg (N := 2) ?hd (cs := #[.slice A0_0 l0_0.length c0_0, .slice A0_1 l0_1.length c0_1, .int .i64 a0_2]) (t := 29) ?hr ?_; (case hd => rfl); (case hg => rfl); (case hr => first | (go_simp; done) | (go_simp; rfl)); intro gb195 hg w9 hbox hb; have n0_ := Aside0.mk (below_step (zH HB.out) hb); have n1_ := Aside0.mk (hbox); have n2_ := Aside0.mk (zg hg (below_size (zH HB.out)) : w.heap.size ≤ gb195); have n3_ := Aside0.mk (zg hg (below_size (zH HB.out)) : w.heap.size ≤ gb195); clear HB; have HB := n0_; have BK195 := n1_; have GW195 := n2_; have GE195 := n3_; clear n0_ n1_ n2_ n3_; clear hb hbox hg; have hcz10_0 : w9.cell? ⟨gb195, 0, none⟩ = some (.slice A0_0 l0_0.length c0_0) := (blk_cell BK195.out 0).trans rfl; have hcz10_1 : w9.cell? ⟨gb195, 1, none⟩ = some (.slice A0_1 l0_1.length c0_1) := (blk_cell BK195.out 1).trans rfl; have hcz10_2 : w9.cell? ⟨gb195, 2, none⟩ = some (.int .i64 a0_2) := (blk_cell BK195.out 2).trans rfl; have hfz10_0 := blk_frozen BK195.out 0; have hfz10_1 := blk_frozen BK195.out 1; have hfz10_2 := blk_frozen BK195.out 2) | ((with_reducible refine gate_callee (f := 16) rfl ?_); refine goesL_ (some 10) rfl rfl Tryd.func16 (by kernel_rfl) rfl #[.agg #[.slice A0_0 l0_0.length c0_0, .slice A0_1 l0_1.length c0_1, .int .i64 a0_2], .slice A1 l1.length c1] rfl zM ?_; (with_reducible refine (lots_Worth.calls k _ _ l0_0 _ _ l0_1 a0_2 _ _ l1 t196 false _ ?side1 ?side2 ?side3 ?side4 ?side5 ?side6 ?side7 A3.out).mono ?_); (case side1 => exact GlobOK.below HG.out (zH1 HB.out GE195.out)); (case side2 => exact zC HR0_0.out HB.out); (case side3 => exact HC0_0.out); (case side4 => exact zC HR0_1.out HB.out); (case side5 => exact HC0_1.out); (case side6 => exact zC HR1.out HB.out); (case side7 => exact HC1.out); rintro e w11 ⟨rfl, hb⟩; refine ⟨_, rfl, ?_⟩; have n0_ := zBB BK195 hb; have n1_ := Aside0.mk (below_step (zH1 HB.out GE195.out) hb); clear BK195; clear HB; have BK195 := n0_; have HB := n1_; clear n0_ n1_; (try clear hb); (try clear hb2); (try clear hk); (try clear hi)))
    go_ret
    exact ⟨zE, zH1 HB.out GE195.out⟩

end Go.Proofs.YtlalofmilhakjaaDoor.ELotsSay
