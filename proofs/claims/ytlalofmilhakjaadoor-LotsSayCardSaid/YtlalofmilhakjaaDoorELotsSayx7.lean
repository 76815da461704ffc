/- The functions that the law comes to, as plain functions, and for each a proof that the Go code comes to just these answers. Written by a program of this claim. Conditions: each theorem bears its own. -/
import Derived.Test.YtlalofmilhakjaaDoorELotsSayx0
import Derived.Test.YtlalofmilhakjaaDoorELotsSayx6
namespace Go.Proofs.YtlalofmilhakjaaDoor.ELotsSay
open Go.RowKit Go.Proofs.YtlalofmilhakjaaDoorW.PrintWords Go.Proofs.YtlalofmilhakjaaDoorW.PrintLast Go.Proofs.YtlalofmilhakjaaDoorW.PrintMore Go.Proofs.YtlalofmilhakjaaDoorW.PrintOpen
attribute [local go_sem] max2_int min2_int max_two min_two max_three min_three max_four min_four   -- for this text's walks alone
set_option linter.unusedVariables false
set_option linter.unusedSimpArgs false

/-! ### lots_Cost: function 17 -/
def lots_Cost.l0 : Nat → Int → List Int → Int → Int → List (S25) → List Int → Int → Option (Int × Bool)
 | 0, _, _, _, _, _, _, _ => none
 | k + 1, x6, x13, x14, x15, x199000, x199001, x199002 => if x15 < x14 then (if 0 ≤ x15 then (if x15 < (x13.length : Int) then (if x15 < (x199000.length : Int) then (lots_Cost.l0 k (wrap64 (x6 + (wrap64 ((rd x13 x15) * ((rd_T25 x199000 x15).f2))))) x13 x14 (wrap64 (x15 + 1)) x199000 x199001 x199002) else (none)) else (none)) else (none)) else (some (x6, true))
def lots_Cost.f (k : Nat) (l0_0 : List (S25)) (l0_1 : List Int) (a0_2 : Int) (l1 : List Int) : Option (Int × Bool) := (lots_fits.f k l0_0 l0_1 a0_2 l1).bind fun t199 => (if t199 = true then (lots_Cost.l0 k 0 l1 (l1.length : Int) 0 l0_0 l0_1 a0_2) else (some (0, false)))
theorem lots_Cost.mono_l : ∀ k, (∀ y0 y1 y2 y3 y4 y5 y6, LeO (lots_Cost.l0 k y0 y1 y2 y3 y4 y5 y6) (lots_Cost.l0 (k + 1) y0 y1 y2 y3 y4 y5 y6))
 | 0 => fun _ _ _ _ _ _ _ r h => by simp [lots_Cost.l0] at h
 | k + 1 => by
  have ih0 := lots_Cost.mono_l k
  ·
   intro y0 y1 y2 y3 y4 y5 y6; unfold lots_Cost.l0
   repeat' first
   | (with_reducible exact ih0 _ _ _ _ _ _ _)
   | (with_reducible exact lots_fits.mono _ _ _ _ _)
   | (with_reducible exact LeO.refl _)
   | (with_reducible exact LeO.none _)
   | (with_reducible refine LeO.ite ?_ ?_)
   | (with_reducible refine LeO.bind ?_ (fun _ => ?_))
   | exact ih0 _ _ _ _ _ _ _
   | exact lots_fits.mono _ _ _ _ _
   | exact LeO.none _
   | refine LeO.ite ?_ ?_
   | refine LeO.bind ?_ (fun _ => ?_)
theorem lots_Cost.mono : ∀ a0 a1 a2 a3 k, LeO (lots_Cost.f k a0 a1 a2 a3) (lots_Cost.f (k + 1) a0 a1 a2 a3) := by
 intro a0 a1 a2 a3 k; have ih0 := lots_Cost.mono_l k; unfold lots_Cost.f
 repeat' first
   | (with_reducible exact ih0 _ _ _ _ _ _ _)
   | (with_reducible exact lots_fits.mono _ _ _ _ _)
   | (with_reducible exact LeO.refl _)
   | (with_reducible exact LeO.none _)
   | (with_reducible refine LeO.ite ?_ ?_)
   | (with_reducible refine LeO.bind ?_ (fun _ => ?_))
   | exact ih0 _ _ _ _ _ _ _
   | exact lots_fits.mono _ _ _ _ _
   | exact LeO.none _
   | refine LeO.ite ?_ ?_
   | refine LeO.bind ?_ (fun _ => ?_)
set_option maxHeartbeats 8000000 in
set_option maxRecDepth 100000 in
theorem lots_Cost.calls [Inhabited (Int → Addr)] (k : Nat) (A0_0 : Option Addr) (c0_0 : Nat) (l0_0 : List (S25)) (A0_1 : Option Addr) (c0_1 : Nat) (l0_1 : List Int) (a0_2 : Int) (A1 : Option Addr) (c1 : Nat) (l1 : List Int) (r1 : Int) (r2 : Bool) (w : World) (hG : GlobOK w) (hr0_0 : Kd.C k25 w A0_0 l0_0.length l0_0) (hc0_0 : l0_0.length ≤ c0_0) (hr0_1 : Kd.C (Kd.int .i64) w A0_1 l0_1.length l0_1) (hc0_1 : l0_1.length ≤ c0_1) (hr1 : Kd.C (Kd.int .i64) w A1 l1.length l1) (hc1 : l1.length ≤ c1) (h : lots_Cost.f k l0_0 l0_1 a0_2 l1 = some (r1, r2)) :
  Calls Tryd.prog 17 #[.agg #[.slice A0_0 l0_0.length c0_0, .slice A0_1 l0_1.length c0_1, .int .i64 a0_2], .slice A1 l1.length c1] w fun e w' => e = .returned (.tuple #[.int .i64 r1, .bool r2]) ∧ Below w.heap.size w w' := by
 have hu29 := Tryd.underlying29; have HG := Aside0.mk hG; clear hG; have HR0_0 := Aside0.mk hr0_0; have HC0_0 := Aside0.mk hc0_0; clear hr0_0 hc0_0; have HR0_1 := Aside0.mk hr0_1; have HC0_1 := Aside0.mk hc0_1; clear hr0_1 hc0_1; have HR1 := Aside0.mk hr1; have HC1 := Aside0.mk hc1; clear hr1 hc1; have HB := Aside0.mk (Below.refl w.heap.size w); have H : ((lots_fits.f k l0_0 l0_1 a0_2 l1).bind fun t199 => (if t199 = true then (lots_Cost.l0 k 0 l1 (l1.length : Int) 0 l0_0 l0_1 a0_2) else (some (0, false)))) = some (r1, r2) := h; clear h; replace H := Option.bind_eq_some_iff.mp H; obtain ⟨t199, A30, H⟩ := H; replace H : (if t199 = true then (lots_Cost.l0 k 0 l1 (l1.length : Int) 0 l0_0 l0_1 a0_2) else (some (0, false))) = some (r1, r2) := H; have A3 := Aside0.mk A30; clear A30; by_cases c4 : t199 = true
 ·
  subst c4; have H1 : (lots_Cost.l0 k 0 l1 (l1.length : Int) 0 l0_0 l0_1 a0_2) = some (r1, r2) := by rw [if_pos rfl] at H; exact H
  clear H; have H := H1; clear H1; have H' := Aside0.mk H; clear H
  go_enter Tryd.func17, Tryd.ntmps17
  go_wp2_with (first | ((with_reducible refine gate_dst (N := 2) rfl ?_); refine box_event ?hg (N := 2) ?hd (cs := #[.slice A0_0 l0_0.length c0_0, .slice A0_1 l0_1.length c0_1, .int .i64 a0_2]) (t := 29) ?hr ?_; (case hd => rfl); (case hg => rfl); (case hr => first | (go_simp; done) | (go_simp; rfl)); intro gb198 hg w5 hbox hb; have n0_ := Aside0.mk (below_step (zH HB.out) hb); have n1_ := Aside0.mk (hbox); have n2_ := Aside0.mk (zg hg (below_size (zH HB.out)) : w.heap.size ≤ gb198); have n3_ := Aside0.mk (zg hg (below_size (zH HB.out)) : w.heap.size ≤ gb198); clear HB; have HB := n0_; have BK198 := n1_; have GW198 := n2_; have GE198 := n3_; clear n0_ n1_ n2_ n3_; clear hb hbox hg; have hcz6_0 : w5.cell? ⟨gb198, 0, none⟩ = some (.slice A0_0 l0_0.length c0_0) := (blk_cell BK198.out 0).trans rfl; have hcz6_1 : w5.cell? ⟨gb198, 1, none⟩ = some (.slice A0_1 l0_1.length c0_1) := (blk_cell BK198.out 1).trans rfl; have hcz6_2 : w5.cell? ⟨gb198, 2, none⟩ = some (.int .i64 a0_2) := (blk_cell BK198.out 2).trans rfl; have hfz6_0 := blk_frozen BK198.out 0; have hfz6_1 := blk_frozen BK198.out 1; have hfz6_2 := blk_frozen BK198.out 2) | ((with_reducible refine gate_callee (f := 36) rfl ?_); refine goesL_ (some 11) rfl rfl Tryd.func36 (by kernel_rfl) rfl #[.agg #[.slice A0_0 l0_0.length c0_0, .slice A0_1 l0_1.length c0_1, .int .i64 a0_2], .slice A1 l1.length c1] rfl zM ?_; (with_reducible refine (lots_fits.calls k _ _ l0_0 _ _ l0_1 a0_2 _ _ l1 true _ ?side1 ?side2 ?side3 ?side4 ?side5 ?side6 ?side7 A3.out).mono ?_); (case side1 => exact GlobOK.below HG.out (zH1 HB.out GE198.out)); (case side2 => exact zC HR0_0.out HB.out); (case side3 => exact HC0_0.out); (case side4 => exact zC HR0_1.out HB.out); (case side5 => exact HC0_1.out); (case side6 => exact zC HR1.out HB.out); (case side7 => exact HC1.out); rintro e w7 ⟨rfl, hb⟩; refine ⟨_, rfl, ?_⟩; have n0_ := zBB BK198 hb; have n1_ := Aside0.mk (below_step (zH1 HB.out GE198.out) hb); clear BK198; clear HB; have BK198 := n0_; have HB := n1_; clear n0_ n1_; (try clear hb); (try clear hb2); (try clear hk); (try clear hi)))
  go_loopg [6, 15] k (fun kq v6 v15 w' => ∃ (x6_1 : Int) (x15_1 : Int), v6 = .int .i64 x6_1 ∧ v15 = .int .i64 x15_1 ∧ Aside0 (lots_Cost.l0 kq x6_1 l1 (l1.length : Int) x15_1 l0_0 l0_1 a0_2 = some (r1, r2)) ∧ Aside0 (kq ≤ k) ∧ Aside0 (w'.heap[gb198]? = some (.cells #[(.slice A0_0 l0_0.length c0_0), (.slice A0_1 l0_1.length c0_1), .int .i64 a0_2] 29 (0, 0))) ∧ Aside0 (Below w.heap.size w w'))
  case atStart => exact ⟨(0), (0), zS, zS, H', ⟨Nat.le_refl _⟩, ⟨zB BK198.out⟩, ⟨zH1 HB.out GE198.out⟩⟩
  case round =>
   clear H'
   try clear c1
   try clear p2
   try clear c3
   try clear c4
   try clear hcz6_0
   try clear hcz6_1
   try clear hcz6_2
   try clear hfz6_0
   try clear hfz6_1
   try clear hfz6_2
   obtain ⟨x6_1, x15_1, rfl, rfl, HA, HK1, BK198, HB⟩ := hrel
   cases gk with
   | zero => exact absurd HA.out (by simp [lots_Cost.l0])
   | succ k1 =>
    have H := HA.out; clear HA; simp only [lots_Cost.l0] at H; by_cases c8 : x15_1 < (l1.length : Int)
    ·
     rw [if_pos c8] at H; have c8b0 : decide (x15_1 < (l1.length : Int)) = true := decide_eq_true c8; clear c8; by_cases c9 : 0 ≤ x15_1
     ·
      rw [if_pos c9] at H; have c9b0 : decide (0 ≤ x15_1) = true := decide_eq_true c9; clear c9; by_cases c10 : x15_1 < (l1.length : Int)
      ·
       rw [if_pos c10] at H; have c10b0 : decide (x15_1 < (l1.length : Int)) = true := decide_eq_true c10; clear c10; by_cases c11 : x15_1 < (l0_0.length : Int)
       ·
        rw [if_pos c11] at H; have c11b0 : decide (x15_1 < (l0_0.length : Int)) = true := decide_eq_true c11; clear c11; have H' := Aside0.mk H; clear H; have p200 : 0 ≤ (x15_1 : Int) := of_decide_eq_true zA; have q200 : x15_1 < (l1.length : Int) := of_decide_eq_true zA; obtain ⟨ad200, e200, hx200_0⟩ := Kd.at_int HR1.out x15_1 p200 q200
        cases e200
        replace hx200_0 := (HB.out.cell (World.block_lt_of_cell? w _ hx200_0)).trans hx200_0; replace p200 := eq_true p200; replace q200 := eq_true q200; have hcz12_0 : wr.cell? ⟨gb198, 0, none⟩ = some (.slice A0_0 l0_0.length c0_0) := (blk_cell BK198.out 0).trans rfl; have hcz12_1 : wr.cell? ⟨gb198, 1, none⟩ = some (.slice A0_1 l0_1.length c0_1) := (blk_cell BK198.out 1).trans rfl; have hcz12_2 : wr.cell? ⟨gb198, 2, none⟩ = some (.int .i64 a0_2) := (blk_cell BK198.out 2).trans rfl; have hfz12_0 := blk_frozen BK198.out 0; have hfz12_1 := blk_frozen BK198.out 1; have hfz12_2 := blk_frozen BK198.out 2; have p201 : 0 ≤ (x15_1 : Int) := of_decide_eq_true zA; have q201 : x15_1 < (l0_0.length : Int) := of_decide_eq_true zA; obtain ⟨ad201, e201, hx201_0, hx201_1, hx201_2, hx201_3⟩ := at_T25 HR0_0.out x15_1 p201 q201
        cases e201
        replace hx201_0 := (HB.out.cell (World.block_lt_of_cell? w _ hx201_0)).trans hx201_0; replace hx201_1 := (HB.out.cell (World.block_lt_of_cell? w _ hx201_1)).trans hx201_1; replace hx201_2 := (HB.out.cell (World.block_lt_of_cell? w _ hx201_2)).trans hx201_2; replace hx201_3 := (HB.out.cell (World.block_lt_of_cell? w _ hx201_3)).trans hx201_3; replace p201 := eq_true p201; replace q201 := eq_true q201
        go_wp2
        go_roundg k1
        case measure => have := HK1.out; omega
        case rel => exact ⟨(wrap64 (x6_1 + (wrap64 ((rd l1 x15_1) * ((rd_T25 l0_0 x15_1).f2))))), (wrap64 (x15_1 + 1)), zS, zS, H', ⟨by have := HK1.out; omega⟩, ⟨zB BK198.out⟩, ⟨zH1 HB.out GE198.out⟩⟩
       ·
        rw [if_neg c11] at H; exact absurd H (by simp)
      ·
       rw [if_neg c10] at H; exact absurd H (by simp)
     ·
      rw [if_neg c9] at H; exact absurd H (by simp)
    ·
     rw [if_neg c8] at H; have c8b0 : decide (x15_1 < (l1.length : Int)) = false := decide_eq_false c8; clear c8; simp only [Option.some.injEq, Prod.mk.injEq] at H; obtain ⟨rfl, rfl⟩ := H
     go_wp2
     go_ret2
     exact ⟨zE, zH1 HB.out GE198.out⟩
 ·
  replace c4 := Bool.eq_false_iff.mpr c4; subst c4; have H1 : (some (0, false)) = some (r1, r2) := by rw [if_neg (show ¬ (false = true) by decide)] at H; exact H
  clear H; have H := H1; clear H1; simp only [Option.some.injEq, Prod.mk.injEq] at H; obtain ⟨rfl, rfl⟩ := H
  go_enter Tryd.func17, Tryd.ntmps17
  go_wp2_with (first | ((with_reducible refine gate_dst (N := 2) rfl ?_); refine box_event ?hg (N := 2) ?hd (cs := #[.slice A0_0 l0_0.length c0_0, .slice A0_1 l0_1.length c0_1, .int .i64 a0_2]) (t := 29) ?hr ?_; (case hd => rfl); (case hg => rfl); (case hr => first | (go_simp; done) | (go_simp; rfl)); intro gb198 hg w13 hbox hb; have n0_ := Aside0.mk (below_step (zH HB.out) hb); have n1_ := Aside0.mk (hbox); have n2_ := Aside0.mk (zg hg (below_size (zH HB.out)) : w.heap.size ≤ gb198); have n3_ := Aside0.mk (zg hg (below_size (zH HB.out)) : w.heap.size ≤ gb198); clear HB; have HB := n0_; have BK198 := n1_; have GW198 := n2_; have GE198 := n3_; clear n0_ n1_ n2_ n3_; clear hb hbox hg; have hcz14_0 : w13.cell? ⟨gb198, 0, none⟩ = some (.slice A0_0 l0_0.length c0_0) := (blk_cell BK198.out 0).trans rfl; have hcz14_1 : w13.cell? ⟨gb198, 1, none⟩ = some (.slice A0_1 l0_1.length c0_1) := (blk_cell BK198.out 1).trans rfl; have hcz14_2 : w13.cell? ⟨gb198, 2, none⟩ = some (.int .i64 a0_2) := (blk_cell BK198.out 2).trans rfl; have hfz14_0 := blk_frozen BK198.out 0; have hfz14_1 := blk_frozen BK198.out 1; have hfz14_2 := blk_frozen BK198.out 2) | ((with_reducible refine gate_callee (f := 36) rfl ?_); refine goesL_ (some 11) rfl rfl Tryd.func36 (by kernel_rfl) rfl #[.agg #[.slice A0_0 l0_0.length c0_0, .slice A0_1 l0_1.length c0_1, .int .i64 a0_2], .slice A1 l1.length c1] rfl zM ?_; (with_reducible refine (lots_fits.calls k _ _ l0_0 _ _ l0_1 a0_2 _ _ l1 false _ ?side1 ?side2 ?side3 ?side4 ?side5 ?side6 ?side7 A3.out).mono ?_); (case side1 => exact GlobOK.below HG.out (zH1 HB.out GE198.out)); (case side2 => exact zC HR0_0.out HB.out); (case side3 => exact HC0_0.out); (case side4 => exact zC HR0_1.out HB.out); (case side5 => exact HC0_1.out); (case side6 => exact zC HR1.out HB.out); (case side7 => exact HC1.out); rintro e w15 ⟨rfl, hb⟩; refine ⟨_, rfl, ?_⟩; have n0_ := zBB BK198 hb; have n1_ := Aside0.mk (below_step (zH1 HB.out GE198.out) hb); clear BK198; clear HB; have BK198 := n0_; have HB := n1_; clear n0_ n1_; (try clear hb); (try clear hb2); (try clear hk); (try clear hi)))
  go_ret2
  exact ⟨zE, zH1 HB.out GE198.out⟩

/-! ### pledgelaw18_other: function 18 -/
def pledgelaw18_other.f (l0_0 : List (S25)) (l0_1 : List Int) (a0_2 : Int) : Option ((List (S25)) × List Int × Int) := some (l0_0, l0_1, a0_2)
set_option maxHeartbeats 8000000 in
set_option maxRecDepth 100000 in
theorem pledgelaw18_other.calls [Inhabited (Int → Addr)] (P0_0_ : Nat → Prop) (u9000_ : Value) (l0_0 : List (S25)) (P0_1_ : Nat → Prop) (u9001_ : Value) (l0_1 : List Int) (a0_2 : Int) (r1 : List (S25)) (r2 : List Int) (r3 : Int) (w0 w : World) (hB : Below w0.heap.size w0 w) (ho0_0 : Kd.R k25 25 w w0.heap.size P0_0_ u9000_ l0_0) (ho0_1 : Kd.R (Kd.int .i64) 2 w w0.heap.size P0_1_ u9001_ l0_1) (h : pledgelaw18_other.f l0_0 l0_1 a0_2 = some (r1, r2, r3)) :
    Calls Tryd.prog 18 #[.agg #[u9000_, u9001_, .int .i64 a0_2]] w fun e w' => ∃ v0_ v1_ : Value, e = .returned (.agg #[v0_, v1_, .int .i64 r3]) ∧ Kd.R k25 25 w' w0.heap.size (fun k_ => ((P0_0_ k_ ∨ P0_1_ k_) ∨ w.heap.size ≤ k_)) v0_ r1 ∧ Kd.R (Kd.int .i64) 2 w' w0.heap.size (fun k_ => ((P0_0_ k_ ∨ P0_1_ k_) ∨ w.heap.size ≤ k_)) v1_ r2 ∧ Below w0.heap.size w0 w' ∧ Kept w w' (fun k_ => P0_0_ k_ ∨ P0_1_ k_) := by
  have hu29 := Tryd.underlying29; have hu45 := Tryd.underlying45; have HO0_0 := Aside0.mk (show Kd.R k25 25 w w0.heap.size (fun k_ => ((P0_0_ k_ ∨ P0_1_ k_) ∨ w.heap.size ≤ k_)) u9000_ l0_0 from Kd.R_mono ho0_0 (fun k_ hk => (.inl (.inl hk)))); have HO0_1 := Aside0.mk (show Kd.R (Kd.int .i64) 2 w w0.heap.size (fun k_ => ((P0_0_ k_ ∨ P0_1_ k_) ∨ w.heap.size ≤ k_)) u9001_ l0_1 from Kd.R_mono ho0_1 (fun k_ hk => (.inl (.inr hk)))); have HK := Aside0.mk (Kept.refl w (fun k_ => P0_0_ k_ ∨ P0_1_ k_)); have HW0 := Aside0.mk hB.size; have HB := Aside0.mk hB; clear hB; have H : (some (l0_0, l0_1, a0_2)) = some (r1, r2, r3) := h; clear h; simp only [Option.some.injEq, Prod.mk.injEq] at H; obtain ⟨rfl, rfl, rfl⟩ := H; obtain ⟨Ao2, co2, eo2⟩ := Kd.R_slice HO0_0.out; subst eo2; obtain ⟨Ao3, co3, eo3⟩ := Kd.R_slice HO0_1.out; subst eo3
  go_enter Tryd.func18, Tryd.ntmps18
  go_wp2_with (first | ((with_reducible refine gate_dst (N := 1) rfl ?_); refine box_event ?hg (N := 1) ?hd (cs := #[.slice Ao2 l0_0.length co2, .slice Ao3 l0_1.length co3, .int .i64 a0_2]) (t := 29) ?hr ?_; (case hd => rfl); (case hg => rfl); (case hr => first | (go_simp; done) | (go_simp; rfl)); intro gb202 hg w4 hbox hb; have n0_ := Aside0.mk (Kd.R_below (zR HO0_0.out) hb); have n1_ := Aside0.mk (Kd.R_below (zR HO0_1.out) hb); have n2_ := Aside0.mk (Kept.below (S := (fun k_ => P0_0_ k_ ∨ P0_1_ k_)) (by repeat (first | (with_reducible first | exact HK.out | apply Kept.alloc | apply Kept.drewN | apply Kept.drew) | exact HK.out)) hb); have n3_ := Aside0.mk (below_step (zH HB.out) hb); have n4_ := Aside0.mk (hbox); have n5_ := Aside0.mk ((by rw [hg]; exact (by first | exact HK.out.1 | exact (show Kept w _ (fun k_ => P0_0_ k_ ∨ P0_1_ k_) from by repeat (first | (with_reducible first | exact HK.out | apply Kept.alloc | apply Kept.drewN | apply Kept.drew) | exact HK.out)).1) : w.heap.size ≤ gb202)); have n6_ := Aside0.mk ((by rw [hg]; exact (below_size (zH HB.out)) : w0.heap.size ≤ gb202)); clear HO0_0; clear HO0_1; clear HK; clear HB; have HO0_0 := n0_; have HO0_1 := n1_; have HK := n2_; have HB := n3_; have BK202 := n4_; have GW202 := n5_; have GE202 := n6_; clear n0_ n1_ n2_ n3_ n4_ n5_ n6_; clear hb hbox hg) | ((with_reducible refine gate_dst (N := 2) rfl ?_); refine box_event ?hg (N := 2) ?hd (cs := #[.slice none 0 0, .slice none 0 0, .int .i64 0]) (t := 45) ?hr ?_; (case hd => rfl); (case hg => rfl); (case hr => first | (go_simp; done) | (go_simp; rfl)); intro gb203 hg w5 hbox hb; have n0_ := Aside0.mk (Kd.R_below (zR HO0_0.out) hb); have n1_ := Aside0.mk (Kd.R_below (zR HO0_1.out) hb); have n2_ := zBB BK202 hb; have n3_ := Aside0.mk (Kept.below (S := (fun k_ => P0_0_ k_ ∨ P0_1_ k_)) (by repeat (first | (with_reducible first | exact HK.out | apply Kept.alloc | apply Kept.drewN | apply Kept.drew | refine Kept.setCell ?_ (.inr GW202.out) _) | exact HK.out)) hb); have n4_ := Aside0.mk (below_step (zH1 HB.out GE202.out) hb); have n5_ := Aside0.mk (hbox); have n6_ := Aside0.mk ((by rw [hg]; exact (by first | exact HK.out.1 | exact (show Kept w _ (fun k_ => P0_0_ k_ ∨ P0_1_ k_) from by repeat (first | (with_reducible first | exact HK.out | apply Kept.alloc | apply Kept.drewN | apply Kept.drew | refine Kept.setCell ?_ (.inr GW202.out) _) | exact HK.out)).1) : w.heap.size ≤ gb203)); have n7_ := Aside0.mk ((by rw [hg]; exact (below_size (zH1 HB.out GE202.out)) : w0.heap.size ≤ gb203)); have n8_ := Aside0.mk (zN hg BK202 : gb202 ≠ gb203); have n9_ := Aside0.mk (zO hg BK202 : gb203 ≠ gb202); clear HO0_0; clear HO0_1; clear BK202; clear HK; clear HB; have HO0_0 := n0_; have HO0_1 := n1_; have BK202 := n2_; have HK := n3_; have HB := n4_; have BK203 := n5_; have GW203 := n6_; have GE203 := n7_; have NB202_203 := n8_; have NB203_202 := n9_; clear n0_ n1_ n2_ n3_ n4_ n5_ n6_ n7_ n8_ n9_; clear hb hbox hg; have hnb6 := NB202_203.out; have hnc6 := NB203_202.out; have hcz7_0 : w5.cell? ⟨gb202, 0, none⟩ = some (.slice Ao2 l0_0.length co2) := (blk_cell BK202.out 0).trans rfl; have hcz7_1 : w5.cell? ⟨gb202, 1, none⟩ = some (.slice Ao3 l0_1.length co3) := (blk_cell BK202.out 1).trans rfl; have hcz7_2 : w5.cell? ⟨gb202, 2, none⟩ = some (.int .i64 a0_2) := (blk_cell BK202.out 2).trans rfl; have hfz7_0 := blk_frozen BK202.out 0; have hfz7_1 := blk_frozen BK202.out 1; have hfz7_2 := blk_frozen BK202.out 2; have hcz8_0 : w5.cell? ⟨gb203, 0, none⟩ = some (.slice none 0 0) := (blk_cell BK203.out 0).trans rfl; have hcz8_1 : w5.cell? ⟨gb203, 1, none⟩ = some (.slice none 0 0) := (blk_cell BK203.out 1).trans rfl; have hcz8_2 : w5.cell? ⟨gb203, 2, none⟩ = some (.int .i64 0) := (blk_cell BK203.out 2).trans rfl; have hfz8_0 := blk_frozen BK203.out 0; have hfz8_1 := blk_frozen BK203.out 1; have hfz8_2 := blk_frozen BK203.out 2))
  refine bodyPost_ret (results_cell_row rfl _ _ gb203 45 #[.slice Ao2 l0_0.length co2, .slice Ao3 l0_1.length co3, .int .i64 a0_2] (0, 0) _ rfl (by (with_reducible repeat (first | refine blk_drewN ?_ _ | refine blk_drew ?_ | refine blk_alloc ?_ _)); refine blk_put (cs := #[.slice Ao2 l0_0.length co2, .slice Ao3 l0_1.length co3, .int .i64 0]) ?_ 2 _ rfl; (with_reducible repeat (first | refine blk_drewN ?_ _ | refine blk_drew ?_ | refine blk_alloc ?_ _)); refine blk_put (cs := #[.slice Ao2 l0_0.length co2, .slice none 0 0, .int .i64 0]) ?_ 1 _ rfl; (with_reducible repeat (first | refine blk_drewN ?_ _ | refine blk_drew ?_ | refine blk_alloc ?_ _)); refine blk_put (cs := #[.slice none 0 0, .slice none 0 0, .int .i64 0]) ?_ 0 _ rfl; (with_reducible repeat (first | refine blk_drewN ?_ _ | refine blk_drew ?_ | refine blk_alloc ?_ _)); exact BK203.out) Tryd.underlying45 rfl (by kernel_rfl)) rfl ?_; exact ⟨_, _, zE, by (with_reducible repeat (first | apply Kd.R_alloc | apply Kd.R_drewN | apply Kd.R_drew)); exact Kd.R_mono (Kd.R_far (p := ⟨gb203, 2, none⟩) (Kd.R_far (p := ⟨gb203, 1, none⟩) (Kd.R_far (p := ⟨gb203, 0, none⟩) (Kd.R_types HO0_0.out BK203.out (by decide)) (fun _ hk => hk.2) (.slice Ao2 l0_0.length co2)) (fun _ hk => hk.2) (.slice Ao3 l0_1.length co3)) (fun _ hk => hk.2) (.int .i64 a0_2)) (fun _ hk => hk.1), by (with_reducible repeat (first | apply Kd.R_alloc | apply Kd.R_drewN | apply Kd.R_drew)); exact Kd.R_mono (Kd.R_far (p := ⟨gb203, 2, none⟩) (Kd.R_far (p := ⟨gb203, 1, none⟩) (Kd.R_far (p := ⟨gb203, 0, none⟩) (Kd.R_types HO0_1.out BK203.out (by decide)) (fun _ hk => hk.2) (.slice Ao2 l0_0.length co2)) (fun _ hk => hk.2) (.slice Ao3 l0_1.length co3)) (fun _ hk => hk.2) (.int .i64 a0_2)) (fun _ hk => hk.1), by repeat (first | (with_reducible first | exact HB.out | apply below_alloc | apply pw_below_drewN | apply below_drew1 | refine below_set ?_ GE202.out | refine below_set ?_ GE203.out) | exact HB.out), by repeat (first | (with_reducible first | exact HK.out | apply Kept.alloc | apply Kept.drewN | apply Kept.drew | refine Kept.setCell ?_ (.inr GW202.out) _ | refine Kept.setCell ?_ (.inr GW203.out) _) | exact HK.out)⟩

end Go.Proofs.YtlalofmilhakjaaDoor.ELotsSay
