/- The functions that the law comes to, as plain functions, and for each a proof that the Go code comes to just these answers. Written by a program of this claim. Conditions: each theorem bears its own. -/
import Derived.Test.YtlalofmilhakjaaDoorELotsSayx0
import Derived.Test.YtlalofmilhakjaaDoorELotsSayx11
namespace Go.Proofs.YtlalofmilhakjaaDoor.ELotsSay
open Go.RowKit Go.Proofs.YtlalofmilhakjaaDoorW.PrintWords Go.Proofs.YtlalofmilhakjaaDoorW.PrintLast Go.Proofs.YtlalofmilhakjaaDoorW.PrintMore Go.Proofs.YtlalofmilhakjaaDoorW.PrintOpen
attribute [local go_sem] max2_int min2_int max_two min_two max_three min_three max_four min_four   -- for this text's walks alone
set_option linter.unusedVariables false
set_option linter.unusedSimpArgs false

/-! ### pledgeref18_Order: function 41 -/
mutual
def pledgeref18_Order.l0 : Nat → List (S25) → List Int → Int → Option (List Int)
 | 0, _, _, _ => none
 | k + 1, x0, x3, x4 => if x4 < (x0.length : Int) then (pledgeref18_Order.l1 k x0 x3 x4 (x3.length : Int)) else (some x3)
def pledgeref18_Order.l1 : Nat → List (S25) → List Int → Int → Int → Option (List Int)
 | 0, _, _, _, _ => none
 | k + 1, x0, x3, x4, x5 => if x5 > 0 then (if 0 ≤ (wrap64 (x5 - 1)) then (if (wrap64 (x5 - 1)) < (x3.length : Int) then (if 0 ≤ (rd x3 (wrap64 (x5 - 1))) then (if (rd x3 (wrap64 (x5 - 1))) < (x0.length : Int) then (if 0 ≤ x4 then (if x4 < (x0.length : Int) then ((pledgeref18_dearer.f k ((rd_T25 x0 (rd x3 (wrap64 (x5 - 1)))).f0) ((rd_T25 x0 (rd x3 (wrap64 (x5 - 1)))).f1) ((rd_T25 x0 (rd x3 (wrap64 (x5 - 1)))).f2) ((rd_T25 x0 (rd x3 (wrap64 (x5 - 1)))).f3) ((rd_T25 x0 x4).f0) ((rd_T25 x0 x4).f1) ((rd_T25 x0 x4).f2) ((rd_T25 x0 x4).f3)).bind fun t287 => (if t287 = true then (pledgeref18_Order.l1 k x0 x3 x4 (wrap64 (x5 - 1))) else (if 0 ≤ x5 then (if x5 ≤ (x3.length : Int) then ((pledgeref_Ints.f k (x3.take (x5 : Int).toNat)).bind fun t292 => (if t292.length < 17592186044416 then ((some (t292 ++ [x4] : List Int)).bind fun y295 => ((some (x3.drop (x5 : Int).toNat : List Int)).bind fun y298 => (if y295.length + y298.length < 17592186044416 then (pledgeref18_Order.l0 k x0 (y295 ++ y298) (wrap64 (x4 + 1))) else (none)))) else (none))) else (none)) else (none)))) else (none)) else (none)) else (none)) else (none)) else (none)) else (none)) else (if 0 ≤ x5 then (if x5 ≤ (x3.length : Int) then ((pledgeref_Ints.f k (x3.take (x5 : Int).toNat)).bind fun t309 => (if t309.length < 17592186044416 then ((some (t309 ++ [x4] : List Int)).bind fun y312 => ((some (x3.drop (x5 : Int).toNat : List Int)).bind fun y315 => (if y312.length + y315.length < 17592186044416 then (pledgeref18_Order.l0 k x0 (y312 ++ y315) (wrap64 (x4 + 1))) else (none)))) else (none))) else (none)) else (none))
end
def pledgeref18_Order.f (k : Nat) (l0 : List (S25)) : Option (List Int) := pledgeref18_Order.l0 k l0 ([] : List Int) 0
theorem pledgeref18_Order.mono_l : ∀ k, (∀ y0 y1 y2, LeO (pledgeref18_Order.l0 k y0 y1 y2) (pledgeref18_Order.l0 (k + 1) y0 y1 y2)) ∧ (∀ y0 y1 y2 y3, LeO (pledgeref18_Order.l1 k y0 y1 y2 y3) (pledgeref18_Order.l1 (k + 1) y0 y1 y2 y3))
 | 0 => ⟨fun _ _ _ r h => by simp [pledgeref18_Order.l0] at h, fun _ _ _ _ r h => by simp [pledgeref18_Order.l1] at h⟩
 | k + 1 => by
  obtain ⟨ih0, ih1⟩ := pledgeref18_Order.mono_l k; refine ⟨?_, ?_⟩
  ·
   intro y0 y1 y2; unfold pledgeref18_Order.l0
   repeat' first
   | (with_reducible exact ih0 _ _ _)
   | (with_reducible exact ih1 _ _ _ _)
   | (with_reducible exact pledgeref18_dearer.mono _ _ _ _ _ _ _ _ _)
   | (with_reducible exact pledgeref_Ints.mono _ _)
   | (with_reducible exact LeO.refl _)
   | (with_reducible exact LeO.none _)
   | (with_reducible refine LeO.ite ?_ ?_)
   | (with_reducible refine LeO.bind ?_ (fun _ => ?_))
   | exact ih0 _ _ _
   | exact ih1 _ _ _ _
   | exact pledgeref18_dearer.mono _ _ _ _ _ _ _ _ _
   | exact pledgeref_Ints.mono _ _
   | exact LeO.none _
   | refine LeO.ite ?_ ?_
   | refine LeO.bind ?_ (fun _ => ?_)
  ·
   intro y0 y1 y2 y3; unfold pledgeref18_Order.l1
   repeat' first
   | (with_reducible exact ih0 _ _ _)
   | (with_reducible exact ih1 _ _ _ _)
   | (with_reducible exact pledgeref18_dearer.mono _ _ _ _ _ _ _ _ _)
   | (with_reducible exact pledgeref_Ints.mono _ _)
   | (with_reducible exact LeO.refl _)
   | (with_reducible exact LeO.none _)
   | (with_reducible refine LeO.ite ?_ ?_)
   | (with_reducible refine LeO.bind ?_ (fun _ => ?_))
   | exact ih0 _ _ _
   | exact ih1 _ _ _ _
   | exact pledgeref18_dearer.mono _ _ _ _ _ _ _ _ _
   | exact pledgeref_Ints.mono _ _
   | exact LeO.none _
   | refine LeO.ite ?_ ?_
   | refine LeO.bind ?_ (fun _ => ?_)
theorem pledgeref18_Order.mono : ∀ a0 k, LeO (pledgeref18_Order.f k a0) (pledgeref18_Order.f (k + 1) a0) := by
 intro a0 k; obtain ⟨ih0, ih1⟩ := pledgeref18_Order.mono_l k; unfold pledgeref18_Order.f
 repeat' first
   | (with_reducible exact ih0 _ _ _)
   | (with_reducible exact ih1 _ _ _ _)
   | (with_reducible exact pledgeref18_dearer.mono _ _ _ _ _ _ _ _ _)
   | (with_reducible exact pledgeref_Ints.mono _ _)
   | (with_reducible exact LeO.refl _)
   | (with_reducible exact LeO.none _)
   | (with_reducible refine LeO.ite ?_ ?_)
   | (with_reducible refine LeO.bind ?_ (fun _ => ?_))
   | exact ih0 _ _ _
   | exact ih1 _ _ _ _
   | exact pledgeref18_dearer.mono _ _ _ _ _ _ _ _ _
   | exact pledgeref_Ints.mono _ _
   | exact LeO.none _
   | refine LeO.ite ?_ ?_
   | refine LeO.bind ?_ (fun _ => ?_)
def pledgeref18_Order.T6 : Bool × List (List Nat × List Nat) := (true, [([], []), ([0], [0]), ([1], [1]), ([2], [2]), ([2], [2]), ([2], [2]), ([5, 2], [2, 5]), ([4, 6, 2], [2, 4, 6]), ([7, 2], [2, 7]), ([3, 8, 2], [2, 3, 8]), ([9, 2], [2, 9]), ([2], [2]), ([2], [2]), ([11, 12, 2], [2, 11, 12]), ([13, 2], [2, 13]), ([10, 14, 2, 2], [2, 10, 14]), ([2, 15], [2, 15])])
def pledgeref18_Order.B6 : List Nat := [0, 1, 3, 7, 7, 7, 39, 119, 247, 511, 1023, 7, 7, 6151, 14343, 32767, 65535]
theorem pledgeref18_Order.tab6 : rtab .any (opsOf Tryd.f41 6) = pledgeref18_Order.T6 := by kernel_rfl
theorem pledgeref18_Order.bits6 : waitsOk pledgeref18_Order.T6.2 pledgeref18_Order.B6 = true := by kernel_rfl
abbrev zc898_m0 : Array Bool := (fun o i : Bool => #[o,o,o,o,o,o,o,o,o,o,o,o,o,o,o,o,o]) false true
abbrev zc898_m1 : Array Bool := (fun o i : Bool => #[i,o,o,o,o,o,o,o,o,o,o,o,o,o,o,o,o]) false true
abbrev zc898_m2 : Array Bool := (fun o i : Bool => #[i,i,o,o,o,o,o,o,o,o,o,o,o,o,o,o,o]) false true
abbrev zc898_m3 : Array Bool := (fun o i : Bool => #[i,i,i,o,o,o,o,o,o,o,o,o,o,o,o,o,o]) false true
abbrev zc898_m4 : Array Bool := (fun o i : Bool => #[i,i,i,i,o,o,o,o,o,o,o,o,o,o,o,o,o]) false true
abbrev zc898_m5 : Array Bool := (fun o i : Bool => #[i,i,i,i,i,o,o,o,o,o,o,o,o,o,o,o,o]) false true
abbrev zc898_m6 : Array Bool := (fun o i : Bool => #[i,i,i,i,i,i,o,o,o,o,o,o,o,o,o,o,o]) false true
abbrev zc898_m7 : Array Bool := (fun o i : Bool => #[i,i,i,i,i,i,i,o,o,o,o,o,o,o,o,o,o]) false true
abbrev zc898_m8 : Array Bool := (fun o i : Bool => #[i,i,i,i,i,i,i,i,o,o,o,o,o,o,o,o,o]) false true
abbrev zc898_m9 : Array Bool := (fun o i : Bool => #[i,i,i,i,i,i,i,i,o,o,o,i,o,o,o,o,o]) false true
abbrev zc898_m10 : Array Bool := (fun o i : Bool => #[i,i,i,i,i,i,i,i,o,o,o,i,i,o,o,o,o]) false true
abbrev zc898_m11 : Array Bool := (fun o i : Bool => #[i,i,i,i,i,i,i,i,o,o,o,i,i,i,o,o,o]) false true
abbrev zc898_m12 : Array Bool := (fun o i : Bool => #[i,i,i,i,i,i,i,i,i,o,o,i,i,i,o,o,o]) false true
abbrev zc898_m13 : Array Bool := (fun o i : Bool => #[i,i,i,i,i,i,i,i,i,i,o,i,i,i,o,o,o]) false true
abbrev zc898_m14 : Array Bool := (fun o i : Bool => #[i,i,i,i,i,i,i,i,i,i,i,i,i,i,o,o,o]) false true
abbrev zc898_m15 : Array Bool := (fun o i : Bool => #[i,i,i,i,i,i,i,i,i,i,i,i,i,i,i,o,o]) false true
abbrev zc898_m16 : Array Bool := (fun o i : Bool => #[i,i,i,i,i,i,i,i,i,i,i,i,i,i,i,i,o]) false true
abbrev zc898_m17 : Array Bool := (fun o i : Bool => #[i,i,i,i,i,i,i,i,i,i,i,i,i,i,i,i,i]) false true
abbrev zc898_m18 : Array Bool := (fun o i : Bool => #[i,i,i,i,i,i,i,i,i,o,o,o,o,o,o,o,o]) false true
abbrev zc898_m19 : Array Bool := (fun o i : Bool => #[i,i,i,i,i,i,i,i,i,i,o,o,o,o,o,o,o]) false true
abbrev zc898_m20 : Array Bool := (fun o i : Bool => #[i,i,i,i,i,i,i,i,i,i,i,o,o,o,o,o,o]) false true
abbrev zc898_m21 : Array Bool := (fun o i : Bool => #[i,i,i,i,i,i,i,i,i,i,i,i,o,o,o,o,o]) false true
abbrev zc898_m22 : Array Bool := (fun o i : Bool => #[i,i,i,i,i,i,i,i,i,i,i,i,i,o,o,o,o]) false true
set_option maxHeartbeats 8000000 in
set_option maxRecDepth 100000 in
theorem pledgeref18_Order.calls [Inhabited (Int → Addr)] (k : Nat) (A0 : Option Addr) (c0 : Nat) (l0 : List (S25)) (r : List Int) (w : World) (hr0 : Kd.C k25 w A0 l0.length l0) (hc0 : l0.length ≤ c0) (h : pledgeref18_Order.f k l0 = some r) :
  Calls Tryd.prog 41 #[.slice A0 l0.length c0] w fun e w' => ∃ v0_ : Value, e = .returned (v0_) ∧ Kd.R (Kd.int .i64) 3 w' w.heap.size (fun _ => True) v0_ r ∧ Below w.heap.size w w' := by
 have hu25 := Tryd.underlying25; have HR0 := Aside0.mk hr0; have HC0 := Aside0.mk hc0; clear hr0 hc0; have HB := Aside0.mk (Below.refl w.heap.size w); have H : (pledgeref18_Order.l0 k l0 ([] : List Int) 0) = some r := h; clear h; have H' := Aside0.mk H; clear H
 go_enter Tryd.func41, Tryd.ntmps41
 go_wp2
 go_loopg [3, 4] k (fun kq v3 v4 w' => ∃ (x3_1 : List Int) (x4_1 : Int), v4 = .int .i64 x4_1 ∧ Aside0 (pledgeref18_Order.l0 kq l0 x3_1 x4_1 = some r) ∧ Aside0 (kq ≤ k) ∧ Aside0 (Kd.R (Kd.int .i64) 3 w' w.heap.size (fun _ => True) v3 x3_1) ∧ Aside0 (Below w.heap.size w w'))
 case atStart => exact ⟨(([] : List Int)), (0), zS, H', ⟨Nat.le_refl _⟩, ⟨by first | exact Kd.R_nil _ _ _ _ _ | exact Kd.N_nil _ _ _ _ _ | exact Kd.V_nil _ _ _ _ _ | exact Kd.Q_nil _ _ _ _ _ | exact Kd.S_nil _ _ _ _ _⟩, ⟨zH HB.out⟩⟩
 case round =>
  clear H'; obtain ⟨x3_1, x4_1, rfl, HA, HK1, HO_3, HB⟩ := hrel
  cases gk with
  | zero => exact absurd HA.out (by simp [pledgeref18_Order.l0])
  | succ k1 =>
   have H := HA.out; clear HA; simp only [pledgeref18_Order.l0] at H; by_cases c2 : x4_1 < (l0.length : Int)
   ·
    rw [if_pos c2] at H; have c2b0 : decide (x4_1 < (l0.length : Int)) = true := decide_eq_true c2; clear c2; have H' := Aside0.mk H; clear H; obtain ⟨Ao3, co3, eo3⟩ := Kd.R_slice HO_3.out; subst eo3
    go_wp2
    go_loopg [5] k1 (fun kq v5 w' => ∃ (x5_2 : Int), v5 = .int .i64 x5_2 ∧ Aside0 (pledgeref18_Order.l1 kq l0 x3_1 x4_1 x5_2 = some r) ∧ Aside0 (kq ≤ k1) ∧ Aside0 (Kd.R (Kd.int .i64) 3 w' w.heap.size (fun _ => True) (.slice Ao3 x3_1.length co3) x3_1) ∧ Aside0 (Below w.heap.size w w'))
    case atStart => exact ⟨((x3_1.length : Int)), zS, H', ⟨Nat.le_refl _⟩, ⟨by (with_reducible repeat (first | apply Kd.R_alloc | apply Kd.R_drewN | apply Kd.R_drew)); exact HO_3.out⟩, ⟨zH HB.out⟩⟩
    case round =>
     clear H'
     try clear c2
     try clear c2b0
     try clear p2
     obtain ⟨x5_2, rfl, HA, HK2, HO_3, HB⟩ := hrel
     cases gk with
     | zero => exact absurd HA.out (by simp [pledgeref18_Order.l1])
     | succ k2 =>
      have H := HA.out; clear HA; simp only [pledgeref18_Order.l1] at H; by_cases c4 : x5_2 > 0
      ·
       rw [if_pos c4] at H; have c4b0 : decide (0 < x5_2) = true := decide_eq_true c4; clear c4; obtain ⟨ji5, hji5⟩ : ∃ j_ : Int, (wrap64 (x5_2 - 1)) = j_ := ⟨_, rfl⟩; replace H : (if 0 ≤ (ji5) then (if (ji5) < (x3_1.length : Int) then (if 0 ≤ (rd x3_1 (ji5)) then (if (rd x3_1 (ji5)) < (l0.length : Int) then (if 0 ≤ x4_1 then (if x4_1 < (l0.length : Int) then ((pledgeref18_dearer.f k2 ((rd_T25 l0 (rd x3_1 (ji5))).f0) ((rd_T25 l0 (rd x3_1 (ji5))).f1) ((rd_T25 l0 (rd x3_1 (ji5))).f2) ((rd_T25 l0 (rd x3_1 (ji5))).f3) ((rd_T25 l0 x4_1).f0) ((rd_T25 l0 x4_1).f1) ((rd_T25 l0 x4_1).f2) ((rd_T25 l0 x4_1).f3)).bind fun t287 => (if t287 = true then (pledgeref18_Order.l1 k2 l0 x3_1 x4_1 ji5) else (if 0 ≤ x5_2 then (if x5_2 ≤ (x3_1.length : Int) then ((pledgeref_Ints.f k2 (x3_1.take (x5_2 : Int).toNat)).bind fun t292 => (if t292.length < 17592186044416 then ((some (t292 ++ [x4_1] : List Int)).bind fun y295 => ((some (x3_1.drop (x5_2 : Int).toNat : List Int)).bind fun y298 => (if y295.length + y298.length < 17592186044416 then (pledgeref18_Order.l0 k2 l0 (y295 ++ y298) (wrap64 (x4_1 + 1))) else (none)))) else (none))) else (none)) else (none)))) else (none)) else (none)) else (none)) else (none)) else (none)) else (none)) = some r := by first | (rw [hji5] at H; exact H) | (simp only [hji5] at H ⊢; exact H)
       have hji5w : (IntKind.i64.wrap (x5_2 - 1)) = ji5 := (i64_w _).trans hji5; by_cases c6 : 0 ≤ (ji5)
       ·
        rw [if_pos c6] at H; have c6b0 : decide (0 ≤ (ji5)) = true := decide_eq_true c6; clear c6; by_cases c7 : (ji5) < (x3_1.length : Int)
        ·
         rw [if_pos c7] at H; have c7b0 : decide ((ji5) < (x3_1.length : Int)) = true := decide_eq_true c7; clear c7; by_cases c8 : 0 ≤ (rd x3_1 (ji5))
         ·
          rw [if_pos c8] at H; have c8b0 : decide (0 ≤ (rd x3_1 (ji5))) = true := decide_eq_true c8; clear c8; by_cases c9 : (rd x3_1 (ji5)) < (l0.length : Int)
          ·
           rw [if_pos c9] at H; have c9b0 : decide ((rd x3_1 (ji5)) < (l0.length : Int)) = true := decide_eq_true c9; clear c9; by_cases c10 : 0 ≤ x4_1
           ·
            rw [if_pos c10] at H; have c10b0 : decide (0 ≤ x4_1) = true := decide_eq_true c10; clear c10; by_cases c11 : x4_1 < (l0.length : Int)
            ·
             rw [if_pos c11] at H; have c11b0 : decide (x4_1 < (l0.length : Int)) = true := decide_eq_true c11; clear c11; replace H := Option.bind_eq_some_iff.mp H; obtain ⟨t287, A120, H⟩ := H; replace H : (if t287 = true then (pledgeref18_Order.l1 k2 l0 x3_1 x4_1 ji5) else (if 0 ≤ x5_2 then (if x5_2 ≤ (x3_1.length : Int) then ((pledgeref_Ints.f k2 (x3_1.take (x5_2 : Int).toNat)).bind fun t292 => (if t292.length < 17592186044416 then ((some (t292 ++ [x4_1] : List Int)).bind fun y295 => ((some (x3_1.drop (x5_2 : Int).toNat : List Int)).bind fun y298 => (if y295.length + y298.length < 17592186044416 then (pledgeref18_Order.l0 k2 l0 (y295 ++ y298) (wrap64 (x4_1 + 1))) else (none)))) else (none))) else (none)) else (none))) = some r := H; have A12 := Aside0.mk A120; clear A120; by_cases c13 : t287 = true
             ·
              subst c13; have H1 : (pledgeref18_Order.l1 k2 l0 x3_1 x4_1 ji5) = some r := by rw [if_pos rfl] at H; exact H
              clear H; have H := H1; clear H1; have H' := Aside0.mk H; clear H
              try go_wp2
              have n0_ := Aside0.mk (Kd.R_drew HO_3.out); have n1_ := Aside0.mk (below_drew1 HB.out); clear HO_3; clear HB; have HO_3 := n0_; have HB := n1_; clear n0_ n1_; have p284 : 0 ≤ ((ji5) : Int) := of_decide_eq_true zA; have q284 : (ji5) < (x3_1.length : Int) := of_decide_eq_true zA; obtain ⟨ad284, e284, hx284_0⟩ := Kd.at_int (Kd.R_reads' HO_3.out).2.2 (ji5) p284 q284
              cases e284
              replace p284 := eq_true p284; replace q284 := eq_true q284; have p285 : 0 ≤ ((rd x3_1 (ji5)) : Int) := of_decide_eq_true zA; have q285 : (rd x3_1 (ji5)) < (l0.length : Int) := of_decide_eq_true zA; obtain ⟨ad285, e285, hx285_0, hx285_1, hx285_2, hx285_3⟩ := at_T25 HR0.out (rd x3_1 (ji5)) p285 q285; have hw285_3 := hx285_3; have hw285_2 := hx285_2; have hw285_1 := hx285_1; have hw285_0 := hx285_0
              cases e285
              replace hx285_0 := (HB.out.cell (World.block_lt_of_cell? w _ hx285_0)).trans hx285_0; replace hx285_1 := (HB.out.cell (World.block_lt_of_cell? w _ hx285_1)).trans hx285_1; replace hx285_2 := (HB.out.cell (World.block_lt_of_cell? w _ hx285_2)).trans hx285_2; replace hx285_3 := (HB.out.cell (World.block_lt_of_cell? w _ hx285_3)).trans hx285_3; replace p285 := eq_true p285; replace q285 := eq_true q285; have p286 : 0 ≤ (x4_1 : Int) := of_decide_eq_true zA; have q286 : x4_1 < (l0.length : Int) := of_decide_eq_true zA; obtain ⟨ad286, e286, hx286_0, hx286_1, hx286_2, hx286_3⟩ := at_T25 HR0.out x4_1 p286 q286; have hw286_3 := hx286_3; have hw286_2 := hx286_2; have hw286_1 := hx286_1; have hw286_0 := hx286_0; obtain rfl : ad285 = ad286 := (by injection e286); replace hx286_0 := (HB.out.cell (World.block_lt_of_cell? w _ hx286_0)).trans hx286_0; replace hx286_1 := (HB.out.cell (World.block_lt_of_cell? w _ hx286_1)).trans hx286_1; replace hx286_2 := (HB.out.cell (World.block_lt_of_cell? w _ hx286_2)).trans hx286_2; replace hx286_3 := (HB.out.cell (World.block_lt_of_cell? w _ hx286_3)).trans hx286_3; replace p286 := eq_true p286; replace q286 := eq_true q286; refine start_ (n := 17) (S := fun w' => w'.cell? (ad284.add ((ji5)).toNat) = some (.int .i64 (rd x3_1 (ji5))) ∧ w'.cell? (ad285.add (((rd x3_1 (ji5))).toNat * 4)) = some (.int .i64 ((rd_T25 l0 (rd x3_1 (ji5))).f0)) ∧ w'.cell? ⟨(ad285.add (((rd x3_1 (ji5))).toNat * 4)).block, (ad285.add (((rd x3_1 (ji5))).toNat * 4)).off + 1, none⟩ = some (.int .i64 ((rd_T25 l0 (rd x3_1 (ji5))).f1)) ∧ w'.cell? ⟨(ad285.add (((rd x3_1 (ji5))).toNat * 4)).block, (ad285.add (((rd x3_1 (ji5))).toNat * 4)).off + 2, none⟩ = some (.int .i64 ((rd_T25 l0 (rd x3_1 (ji5))).f2)) ∧ w'.cell? ⟨(ad285.add (((rd x3_1 (ji5))).toNat * 4)).block, (ad285.add (((rd x3_1 (ji5))).toNat * 4)).off + 3, none⟩ = some (.int .i64 ((rd_T25 l0 (rd x3_1 (ji5))).f3)) ∧ w'.cell? (ad285.add ((x4_1).toNat * 4)) = some (.int .i64 ((rd_T25 l0 x4_1).f0)) ∧ w'.cell? ⟨(ad285.add ((x4_1).toNat * 4)).block, (ad285.add ((x4_1).toNat * 4)).off + 1, none⟩ = some (.int .i64 ((rd_T25 l0 x4_1).f1)) ∧ w'.cell? ⟨(ad285.add ((x4_1).toNat * 4)).block, (ad285.add ((x4_1).toNat * 4)).off + 2, none⟩ = some (.int .i64 ((rd_T25 l0 x4_1).f2)) ∧ w'.cell? ⟨(ad285.add ((x4_1).toNat * 4)).block, (ad285.add ((x4_1).toNat * 4)).off + 3, none⟩ = some (.int .i64 ((rd_T25 l0 x4_1).f3))) (ds := []) zc898_m0 (by kernel_rfl) rfl rfl ⟨hx284_0, ((HB.out.cell (World.block_lt_of_cell? w _ hw285_0)).trans hw285_0), ((HB.out.cell (World.block_lt_of_cell? w _ hw285_1)).trans hw285_1), ((HB.out.cell (World.block_lt_of_cell? w _ hw285_2)).trans hw285_2), ((HB.out.cell (World.block_lt_of_cell? w _ hw285_3)).trans hw285_3), ((HB.out.cell (World.block_lt_of_cell? w _ hw286_0)).trans hw286_0), ((HB.out.cell (World.block_lt_of_cell? w _ hw286_1)).trans hw286_1), ((HB.out.cell (World.block_lt_of_cell? w _ hw286_2)).trans hw286_2), ((HB.out.cell (World.block_lt_of_cell? w _ hw286_3)).trans hw286_3)⟩ (fun hHeld => ?_); refine with_tabW pledgeref18_Order.tab6 pledgeref18_Order.bits6 (fun HT_ HW_ => ?_); generalize wr.drew = w14 at HO_3 HB hx284_0 hx285_0 hx285_1 hx285_2 hx285_3 hx286_0 hx286_1 hx286_2 hx286_3 hHeld ⊢; refine zU 0 15 zc898_m1 HT_ ?_; refine zU 1 16 zc898_m2 HT_ ?_; refine zU 2 17 zc898_m3 HT_ ?_; refine zU 3 18 zc898_m4 HT_ ?_; refine zU 4 19 zc898_m5 HT_ ?_; refine zU 5 20 zc898_m6 HT_ ?_; refine zU 6 21 zc898_m7 HT_ ?_; refine zU 7 22 zc898_m8 HT_ ?_; refine zU 11 26 zc898_m9 HT_ ?_; refine zU 12 27 zc898_m10 HT_ ?_; refine zU 13 28 zc898_m11 HT_ ?_; refine take_ (i := 8) (N := some 23) (v := ?_) (a' := ?_) zc898_m12 rfl rfl (take_ofW HT_.out HW_.out (by kernel_rfl)) (fun _ _ _ h => h) (Or.inl ⟨by rfl, ?_⟩) hHeld ?_ ?_; rotate_left
              ·
               rintro w' ⟨s0, s1, s2, s3, s4, s5, s6, s7, s8⟩; go_simp
               with_reducible rfl
              rotate_left
              · simp only [Act.put, zq1, zq2, zq3, i64_w, i32_w]; rfl
              refine zU 9 24 zc898_m13 HT_ ?_; refine take_ (i := 10) (N := some 25) (v := ?_) (a' := ?_) zc898_m14 rfl rfl (take_ofW HT_.out HW_.out (by kernel_rfl)) (fun _ _ _ h => h) (Or.inl ⟨by rfl, ?_⟩) hHeld ?_ ?_; rotate_left
              ·
               rintro w' ⟨s0, s1, s2, s3, s4, s5, s6, s7, s8⟩; go_simp
               with_reducible rfl
              rotate_left
              · simp only [Act.put, zq1, zq2, zq3, i64_w, i32_w]; rfl
              refine take_ (i := 14) (N := some 29) (v := ?_) (a' := ?_) zc898_m15 rfl rfl (take_ofW HT_.out HW_.out (by kernel_rfl)) (fun _ _ _ h => h) (Or.inl ⟨by rfl, ?_⟩) hHeld ?_ ?_; rotate_left
              ·
               rintro w' ⟨s0, s1, s2, s3, s4, s5, s6, s7, s8⟩; go_simp
               with_reducible rfl
              rotate_left
              · simp only [Act.put, zq1, zq2, zq3, i64_w, i32_w]; rfl
              refine one_ (i := 15) (N := some 30) zc898_m16 rfl rfl (one_of HT_.out (by kernel_rfl)) (by decide) (fun K hK => ?_); refine goes_ Tryd.func49 (by kernel_rfl) rfl #[.agg #[.int .i64 ((rd_T25 l0 (rd x3_1 (ji5))).f0), .int .i64 ((rd_T25 l0 (rd x3_1 (ji5))).f1), .int .i64 ((rd_T25 l0 (rd x3_1 (ji5))).f2), .int .i64 ((rd_T25 l0 (rd x3_1 (ji5))).f3)], .agg #[.int .i64 ((rd_T25 l0 x4_1).f0), .int .i64 ((rd_T25 l0 x4_1).f1), .int .i64 ((rd_T25 l0 x4_1).f2), .int .i64 ((rd_T25 l0 x4_1).f3)]] (by rfl) rfl rfl (by (try simp only [List.map_toArray, List.map_cons, List.map_nil]); first | done | (simp only [hji5]; rfl) | rfl | (simp only [List.length_drop, List.length_take]; rfl)) ?_
              with_reducible refine (pledgeref18_dearer.calls k2 ((rd_T25 l0 (rd x3_1 (ji5))).f0) ((rd_T25 l0 (rd x3_1 (ji5))).f1) ((rd_T25 l0 (rd x3_1 (ji5))).f2) ((rd_T25 l0 (rd x3_1 (ji5))).f3) ((rd_T25 l0 x4_1).f0) ((rd_T25 l0 x4_1).f1) ((rd_T25 l0 x4_1).f2) ((rd_T25 l0 x4_1).f3) true _ A12.out).mono ?_
              rintro e w15 ⟨rfl, hb⟩; have HS0_ := (hb.cell (World.block_lt_of_cell? _ _ (hHeld.1))).trans (hHeld.1); refine ⟨_, rfl, ?_⟩; have n0_ := Aside0.mk (Kd.R_below (zR HO_3.out) hb); have n1_ := Aside0.mk (below_step (zH HB.out) hb); clear HO_3; clear HB; have HO_3 := n0_; have HB := n1_; clear n0_ n1_; (try clear hb); (try clear hb2); (try clear hk); (try clear hi); refine hK.out _ _ ⟨HS0_, ((HB.out.cell (World.block_lt_of_cell? w _ hw285_0)).trans hw285_0), ((HB.out.cell (World.block_lt_of_cell? w _ hw285_1)).trans hw285_1), ((HB.out.cell (World.block_lt_of_cell? w _ hw285_2)).trans hw285_2), ((HB.out.cell (World.block_lt_of_cell? w _ hw285_3)).trans hw285_3), ((HB.out.cell (World.block_lt_of_cell? w _ hw286_0)).trans hw286_0), ((HB.out.cell (World.block_lt_of_cell? w _ hw286_1)).trans hw286_1), ((HB.out.cell (World.block_lt_of_cell? w _ hw286_2)).trans hw286_2), ((HB.out.cell (World.block_lt_of_cell? w _ hw286_3)).trans hw286_3)⟩ (fun hHeld => ?_); clear hK K; refine norm_ (a' := ?_) ?_ ?_; rotate_left
              ·
               show Act.put _ (some 30) _ = _
               simp only [Act.put, zq1, zq2, zq3, i64_w, i32_w]; rfl
              refine zU 16 31 zc898_m17 HT_ ?_; refine done_ (done_of HT_.out (by kernel_rfl)) ?_
              try go_wp2
              go_roundg k2
              case measure => have := HK1.out; have := HK2.out; omega
              case rel => exact ⟨(ji5), (by first | rfl | (simp; done) | (simp only [← hji5] <;> (first | rfl | simp)) | (simp [*]; done)), H', ⟨by have := HK1.out; have := HK2.out; omega⟩, ⟨by (with_reducible repeat (first | apply Kd.R_alloc | apply Kd.R_drewN | apply Kd.R_drew)); exact HO_3.out⟩, ⟨zH HB.out⟩⟩
             ·
              replace c13 := Bool.eq_false_iff.mpr c13; subst c13; have H1 : (if 0 ≤ x5_2 then (if x5_2 ≤ (x3_1.length : Int) then ((pledgeref_Ints.f k2 (x3_1.take (x5_2 : Int).toNat)).bind fun t292 => (if t292.length < 17592186044416 then ((some (t292 ++ [x4_1] : List Int)).bind fun y295 => ((some (x3_1.drop (x5_2 : Int).toNat : List Int)).bind fun y298 => (if y295.length + y298.length < 17592186044416 then (pledgeref18_Order.l0 k2 l0 (y295 ++ y298) (wrap64 (x4_1 + 1))) else (none)))) else (none))) else (none)) else (none)) = some r := by rw [if_neg (show ¬ (false = true) by decide)] at H; exact H
              clear H; have H := H1; clear H1; by_cases c16 : 0 ≤ x5_2
              ·
               rw [if_pos c16] at H; have c16b0 := eq_true c16; have c16b1 : decide (0 ≤ x5_2) = true := decide_eq_true c16; clear c16; by_cases c17 : x5_2 ≤ (x3_1.length : Int)
               ·
                rw [if_pos c17] at H; have c17b0 := eq_true c17; have c17b1 : decide (x5_2 ≤ (x3_1.length : Int)) = true := decide_eq_true c17; clear c17; obtain ⟨y288, hy288⟩ : ∃ y_ : List Int, y_ = (x3_1.take (x5_2 : Int).toNat) := ⟨_, rfl⟩; replace H : ((pledgeref_Ints.f k2 y288).bind fun t292 => (if t292.length < 17592186044416 then ((some (t292 ++ [x4_1] : List Int)).bind fun y295 => ((some (x3_1.drop (x5_2 : Int).toNat : List Int)).bind fun y298 => (if y295.length + y298.length < 17592186044416 then (pledgeref18_Order.l0 k2 l0 (y295 ++ y298) (wrap64 (x4_1 + 1))) else (none)))) else (none))) = some r := by first | (rw [hy288]; with_reducible exact H) | (have H2_ := (Option.bind_some _ _).symm.trans H; rw [hy288]; with_reducible exact H2_) | (have H2_ := (Option.bind_some _ _).symm.trans H; with_reducible exact H2_) | with_reducible exact H | (rw [hy288]; exact H) | exact H
                have Ny288 := Aside0.mk hy288; clear hy288; replace H := Option.bind_eq_some_iff.mp H; obtain ⟨t292, A180, H⟩ := H; replace H : (if t292.length < 17592186044416 then ((some (t292 ++ [x4_1] : List Int)).bind fun y295 => ((some (x3_1.drop (x5_2 : Int).toNat : List Int)).bind fun y298 => (if y295.length + y298.length < 17592186044416 then (pledgeref18_Order.l0 k2 l0 (y295 ++ y298) (wrap64 (x4_1 + 1))) else (none)))) else (none)) = some r := H; have A18 := Aside0.mk A180; clear A180; by_cases c19 : t292.length < 17592186044416
                ·
                 rw [if_pos c19] at H; have LMc19 := Aside0.mk c19; clear c19; obtain ⟨y295, hy295⟩ : ∃ y_ : List Int, y_ = (t292 ++ [x4_1]) := ⟨_, rfl⟩; replace H : ((some (x3_1.drop (x5_2 : Int).toNat : List Int)).bind fun y298 => (if y295.length + y298.length < 17592186044416 then (pledgeref18_Order.l0 k2 l0 (y295 ++ y298) (wrap64 (x4_1 + 1))) else (none))) = some r := by first | (rw [hy295]; with_reducible exact H) | (have H2_ := (Option.bind_some _ _).symm.trans H; rw [hy295]; with_reducible exact H2_) | (have H2_ := (Option.bind_some _ _).symm.trans H; with_reducible exact H2_) | with_reducible exact H | (rw [hy295]; exact H) | exact H
                 have Ny295 := Aside0.mk hy295; clear hy295; have c20b0 := eq_true (of_decide_eq_true zA : 0 ≤ x5_2); have c21b0 := eq_true (of_decide_eq_true zA : x5_2 ≤ (x3_1.length : Int)); obtain ⟨y298, hy298⟩ : ∃ y_ : List Int, y_ = (x3_1.drop (x5_2 : Int).toNat) := ⟨_, rfl⟩; replace H : (if y295.length + y298.length < 17592186044416 then (pledgeref18_Order.l0 k2 l0 (y295 ++ y298) (wrap64 (x4_1 + 1))) else (none)) = some r := by first | (rw [hy298]; with_reducible exact H) | (have H2_ := (Option.bind_some _ _).symm.trans H; rw [hy298]; with_reducible exact H2_) | (have H2_ := (Option.bind_some _ _).symm.trans H; with_reducible exact H2_) | with_reducible exact H | (rw [hy298]; exact H) | exact H
                 have Ny298 := Aside0.mk hy298; clear hy298; by_cases c22 : y295.length + y298.length < 17592186044416
                 ·
                  rw [if_pos c22] at H; have LMc22 := Aside0.mk c22; clear c22; obtain ⟨y302, hy302⟩ : ∃ y_ : List Int, y_ = (y295 ++ y298) := ⟨_, rfl⟩; replace H : (pledgeref18_Order.l0 k2 l0 y302 (wrap64 (x4_1 + 1))) = some r := by first | (rw [hy302]; with_reducible exact H) | (have H2_ := (Option.bind_some _ _).symm.trans H; rw [hy302]; with_reducible exact H2_) | (have H2_ := (Option.bind_some _ _).symm.trans H; with_reducible exact H2_) | with_reducible exact H | (rw [hy302]; exact H) | exact H
                  have Ny302 := Aside0.mk hy302; clear hy302; have H' := Aside0.mk H; clear H
                  try go_wp2
                  have n0_ := Aside0.mk (Kd.R_drew HO_3.out); have n1_ := Aside0.mk (below_drew1 HB.out); clear HO_3; clear HB; have HO_3 := n0_; have HB := n1_; clear n0_ n1_; have p284 : 0 ≤ ((ji5) : Int) := of_decide_eq_true zA; have q284 : (ji5) < (x3_1.length : Int) := of_decide_eq_true zA; obtain ⟨ad284, e284, hx284_0⟩ := Kd.at_int (Kd.R_reads' HO_3.out).2.2 (ji5) p284 q284
                  cases e284
                  replace p284 := eq_true p284; replace q284 := eq_true q284; have p285 : 0 ≤ ((rd x3_1 (ji5)) : Int) := of_decide_eq_true zA; have q285 : (rd x3_1 (ji5)) < (l0.length : Int) := of_decide_eq_true zA; obtain ⟨ad285, e285, hx285_0, hx285_1, hx285_2, hx285_3⟩ := at_T25 HR0.out (rd x3_1 (ji5)) p285 q285; have hw285_3 := hx285_3; have hw285_2 := hx285_2; have hw285_1 := hx285_1; have hw285_0 := hx285_0
                  cases e285
                  replace hx285_0 := (HB.out.cell (World.block_lt_of_cell? w _ hx285_0)).trans hx285_0; replace hx285_1 := (HB.out.cell (World.block_lt_of_cell? w _ hx285_1)).trans hx285_1; replace hx285_2 := (HB.out.cell (World.block_lt_of_cell? w _ hx285_2)).trans hx285_2; replace hx285_3 := (HB.out.cell (World.block_lt_of_cell? w _ hx285_3)).trans hx285_3; replace p285 := eq_true p285; replace q285 := eq_true q285; have p286 : 0 ≤ (x4_1 : Int) := of_decide_eq_true zA; have q286 : x4_1 < (l0.length : Int) := of_decide_eq_true zA; obtain ⟨ad286, e286, hx286_0, hx286_1, hx286_2, hx286_3⟩ := at_T25 HR0.out x4_1 p286 q286; have hw286_3 := hx286_3; have hw286_2 := hx286_2; have hw286_1 := hx286_1; have hw286_0 := hx286_0; obtain rfl : ad285 = ad286 := (by injection e286); replace hx286_0 := (HB.out.cell (World.block_lt_of_cell? w _ hx286_0)).trans hx286_0; replace hx286_1 := (HB.out.cell (World.block_lt_of_cell? w _ hx286_1)).trans hx286_1; replace hx286_2 := (HB.out.cell (World.block_lt_of_cell? w _ hx286_2)).trans hx286_2; replace hx286_3 := (HB.out.cell (World.block_lt_of_cell? w _ hx286_3)).trans hx286_3; replace p286 := eq_true p286; replace q286 := eq_true q286; refine start_ (n := 17) (S := fun w' => w'.cell? (ad284.add ((ji5)).toNat) = some (.int .i64 (rd x3_1 (ji5))) ∧ w'.cell? (ad285.add (((rd x3_1 (ji5))).toNat * 4)) = some (.int .i64 ((rd_T25 l0 (rd x3_1 (ji5))).f0)) ∧ w'.cell? ⟨(ad285.add (((rd x3_1 (ji5))).toNat * 4)).block, (ad285.add (((rd x3_1 (ji5))).toNat * 4)).off + 1, none⟩ = some (.int .i64 ((rd_T25 l0 (rd x3_1 (ji5))).f1)) ∧ w'.cell? ⟨(ad285.add (((rd x3_1 (ji5))).toNat * 4)).block, (ad285.add (((rd x3_1 (ji5))).toNat * 4)).off + 2, none⟩ = some (.int .i64 ((rd_T25 l0 (rd x3_1 (ji5))).f2)) ∧ w'.cell? ⟨(ad285.add (((rd x3_1 (ji5))).toNat * 4)).block, (ad285.add (((rd x3_1 (ji5))).toNat * 4)).off + 3, none⟩ = some (.int .i64 ((rd_T25 l0 (rd x3_1 (ji5))).f3)) ∧ w'.cell? (ad285.add ((x4_1).toNat * 4)) = some (.int .i64 ((rd_T25 l0 x4_1).f0)) ∧ w'.cell? ⟨(ad285.add ((x4_1).toNat * 4)).block, (ad285.add ((x4_1).toNat * 4)).off + 1, none⟩ = some (.int .i64 ((rd_T25 l0 x4_1).f1)) ∧ w'.cell? ⟨(ad285.add ((x4_1).toNat * 4)).block, (ad285.add ((x4_1).toNat * 4)).off + 2, none⟩ = some (.int .i64 ((rd_T25 l0 x4_1).f2)) ∧ w'.cell? ⟨(ad285.add ((x4_1).toNat * 4)).block, (ad285.add ((x4_1).toNat * 4)).off + 3, none⟩ = some (.int .i64 ((rd_T25 l0 x4_1).f3))) (ds := []) zc898_m0 (by kernel_rfl) rfl rfl ⟨hx284_0, ((HB.out.cell (World.block_lt_of_cell? w _ hw285_0)).trans hw285_0), ((HB.out.cell (World.block_lt_of_cell? w _ hw285_1)).trans hw285_1), ((HB.out.cell (World.block_lt_of_cell? w _ hw285_2)).trans hw285_2), ((HB.out.cell (World.block_lt_of_cell? w _ hw285_3)).trans hw285_3), ((HB.out.cell (World.block_lt_of_cell? w _ hw286_0)).trans hw286_0), ((HB.out.cell (World.block_lt_of_cell? w _ hw286_1)).trans hw286_1), ((HB.out.cell (World.block_lt_of_cell? w _ hw286_2)).trans hw286_2), ((HB.out.cell (World.block_lt_of_cell? w _ hw286_3)).trans hw286_3)⟩ (fun hHeld => ?_); refine with_tabW pledgeref18_Order.tab6 pledgeref18_Order.bits6 (fun HT_ HW_ => ?_); generalize wr.drew = w23 at HO_3 HB hx284_0 hx285_0 hx285_1 hx285_2 hx285_3 hx286_0 hx286_1 hx286_2 hx286_3 hHeld ⊢; refine zU 0 15 zc898_m1 HT_ ?_; refine zU 1 16 zc898_m2 HT_ ?_; refine zU 2 17 zc898_m3 HT_ ?_; refine zU 3 18 zc898_m4 HT_ ?_; refine zU 4 19 zc898_m5 HT_ ?_; refine zU 5 20 zc898_m6 HT_ ?_; refine zU 6 21 zc898_m7 HT_ ?_; refine zU 7 22 zc898_m8 HT_ ?_; refine zU 11 26 zc898_m9 HT_ ?_; refine zU 12 27 zc898_m10 HT_ ?_; refine zU 13 28 zc898_m11 HT_ ?_; refine take_ (i := 8) (N := some 23) (v := ?_) (a' := ?_) zc898_m12 rfl rfl (take_ofW HT_.out HW_.out (by kernel_rfl)) (fun _ _ _ h => h) (Or.inl ⟨by rfl, ?_⟩) hHeld ?_ ?_; rotate_left
                  ·
                   rintro w' ⟨s0, s1, s2, s3, s4, s5, s6, s7, s8⟩; go_simp
                   with_reducible rfl
                  rotate_left
                  · simp only [Act.put, zq1, zq2, zq3, i64_w, i32_w]; rfl
                  refine zU 9 24 zc898_m13 HT_ ?_; refine take_ (i := 10) (N := some 25) (v := ?_) (a' := ?_) zc898_m14 rfl rfl (take_ofW HT_.out HW_.out (by kernel_rfl)) (fun _ _ _ h => h) (Or.inl ⟨by rfl, ?_⟩) hHeld ?_ ?_; rotate_left
                  ·
                   rintro w' ⟨s0, s1, s2, s3, s4, s5, s6, s7, s8⟩; go_simp
                   with_reducible rfl
                  rotate_left
                  · simp only [Act.put, zq1, zq2, zq3, i64_w, i32_w]; rfl
                  refine take_ (i := 14) (N := some 29) (v := ?_) (a' := ?_) zc898_m15 rfl rfl (take_ofW HT_.out HW_.out (by kernel_rfl)) (fun _ _ _ h => h) (Or.inl ⟨by rfl, ?_⟩) hHeld ?_ ?_; rotate_left
                  ·
                   rintro w' ⟨s0, s1, s2, s3, s4, s5, s6, s7, s8⟩; go_simp
                   with_reducible rfl
                  rotate_left
                  · simp only [Act.put, zq1, zq2, zq3, i64_w, i32_w]; rfl
                  refine one_ (i := 15) (N := some 30) zc898_m16 rfl rfl (one_of HT_.out (by kernel_rfl)) (by decide) (fun K hK => ?_); refine goes_ Tryd.func49 (by kernel_rfl) rfl #[.agg #[.int .i64 ((rd_T25 l0 (rd x3_1 (ji5))).f0), .int .i64 ((rd_T25 l0 (rd x3_1 (ji5))).f1), .int .i64 ((rd_T25 l0 (rd x3_1 (ji5))).f2), .int .i64 ((rd_T25 l0 (rd x3_1 (ji5))).f3)], .agg #[.int .i64 ((rd_T25 l0 x4_1).f0), .int .i64 ((rd_T25 l0 x4_1).f1), .int .i64 ((rd_T25 l0 x4_1).f2), .int .i64 ((rd_T25 l0 x4_1).f3)]] (by rfl) rfl rfl (by (try simp only [List.map_toArray, List.map_cons, List.map_nil]); first | done | (simp only [hji5]; rfl) | rfl | (simp only [List.length_drop, List.length_take]; rfl)) ?_
                  with_reducible refine (pledgeref18_dearer.calls k2 ((rd_T25 l0 (rd x3_1 (ji5))).f0) ((rd_T25 l0 (rd x3_1 (ji5))).f1) ((rd_T25 l0 (rd x3_1 (ji5))).f2) ((rd_T25 l0 (rd x3_1 (ji5))).f3) ((rd_T25 l0 x4_1).f0) ((rd_T25 l0 x4_1).f1) ((rd_T25 l0 x4_1).f2) ((rd_T25 l0 x4_1).f3) false _ A12.out).mono ?_
                  rintro e w24 ⟨rfl, hb⟩; have HS0_ := (hb.cell (World.block_lt_of_cell? _ _ (hHeld.1))).trans (hHeld.1); refine ⟨_, rfl, ?_⟩; have n0_ := Aside0.mk (Kd.R_below (zR HO_3.out) hb); have n1_ := Aside0.mk (below_step (zH HB.out) hb); clear HO_3; clear HB; have HO_3 := n0_; have HB := n1_; clear n0_ n1_; (try clear hb); (try clear hb2); (try clear hk); (try clear hi); refine hK.out _ _ ⟨HS0_, ((HB.out.cell (World.block_lt_of_cell? w _ hw285_0)).trans hw285_0), ((HB.out.cell (World.block_lt_of_cell? w _ hw285_1)).trans hw285_1), ((HB.out.cell (World.block_lt_of_cell? w _ hw285_2)).trans hw285_2), ((HB.out.cell (World.block_lt_of_cell? w _ hw285_3)).trans hw285_3), ((HB.out.cell (World.block_lt_of_cell? w _ hw286_0)).trans hw286_0), ((HB.out.cell (World.block_lt_of_cell? w _ hw286_1)).trans hw286_1), ((HB.out.cell (World.block_lt_of_cell? w _ hw286_2)).trans hw286_2), ((HB.out.cell (World.block_lt_of_cell? w _ hw286_3)).trans hw286_3)⟩ (fun hHeld => ?_); clear hK K; refine norm_ (a' := ?_) ?_ ?_; rotate_left
                  ·
                   show Act.put _ (some 30) _ = _
                   simp only [Act.put, zq1, zq2, zq3, i64_w, i32_w]; rfl
                  refine zU 16 31 zc898_m17 HT_ ?_; refine done_ (done_of HT_.out (by kernel_rfl)) ?_; have q25 : (x5_2 : Int) ≤ ((x3_1.length : Int) : Int) := of_decide_eq_true zA; obtain ⟨i025, hi025, _, hsz25, _⟩ := info_parts info3; have hroom25 : x3_1.length ≤ co3 := (Kd.R_reads' HO_3.out).2.1; have hC25 : Kd.C (Kd.int .i64) _ (some ad284) x3_1.length x3_1 := (Kd.R_reads' HO_3.out).2.2; have hcut25 := cut_to (P := Tryd.prog) 30 3 .i64 Tryd.underlying30 hi025 (some ad284) x3_1.length co3 x5_2 (of_decide_eq_true zA) q25 hroom25; have hr25 := Kd.C_take (m := (x5_2 : Int).toNat) hC25 (by omega); have hy25 : y288.length = (x5_2 : Int).toNat := (by rw [Ny288.out, List.length_take]; omega); rw [← Ny288.out] at hr25; rw [← hy25] at hcut25; have HR291 := Aside0.mk hr25; have HC291 := Aside0.mk (show y288.length ≤ co3 from by omega); clear hr25 hC25 hroom25 hi025 hsz25; have KY25 := Aside0.mk hy25; clear hy25; have KL25 := Aside0.mk (show (x5_2 : Int).toNat ≤ x3_1.length from by omega); replace q25 := eq_true q25
                  try go_wp2_with (first | ((with_reducible refine gate_callee (f := 15) rfl ?_); refine goesL_ (some 37) rfl rfl Tryd.func15 (by kernel_rfl) rfl #[.slice (some ad284) y288.length co3] rfl zM ?_; (with_reducible refine (pledgeref_Ints.calls k2 _ _ y288 t292 _ ?side1 ?side2 A18.out).mono ?_); (case side1 => repeat (first | exact (by repeat (first | (with_reducible exact HR291.out) | (with_reducible refine Kd.C_alloc ?_ _) | (with_reducible refine Kd.C_drewN ?_ _) | (with_reducible refine Kd.C_drew ?_) | exact HR291.out)) | (with_reducible refine Kd.C_alloc ?_ _) | (with_reducible refine Kd.C_drewN ?_ _) | (with_reducible refine Kd.C_drew ?_))); (case side2 => exact HC291.out); rintro e w26 ⟨v293, rfl, ho0, hb⟩; refine ⟨_, rfl, ?_⟩; have n0_ := Aside0.mk (Kd.R_elder' (zR HO_3.out) (Kd.R_base ho0) hb); have n1_ := Aside0.mk (Kd.R_lower (Kd.R_new' ho0 (Kd.R_lt (zR HO_3.out))) (below_size (zH HB.out))); have n2_ := Aside0.mk (Kd.C_below (by repeat (first | (with_reducible exact HR291.out) | (with_reducible refine Kd.C_alloc ?_ _) | (with_reducible refine Kd.C_drewN ?_ _) | (with_reducible refine Kd.C_drew ?_) | exact HR291.out)) hb); have n3_ := Aside0.mk (below_step (zH HB.out) hb); clear HO_3; clear HR291; clear HB; have HO_3 := n0_; have HO294 := n1_; have HR291 := n2_; have HB := n3_; clear n0_ n1_ n2_ n3_; (try clear hb); (try clear hb2); (try clear hk); (try clear hi); (try clear ho0)) | ((with_reducible refine gate_builtin (b := .append) (xs := #[.tmp 37, .tmp 39]) rfl ?_); at_builtin; refine Kd.R_append (Kd.int .i64) (w0 := w) w.heap.size rfl (.tmp 37) (.tmp 39) 30 3 (.int .i64 0) 8 rfl Tryd.underlying30 info3 rfl (by decide) (by omega) v293 t292 x4_1 [.int .i64 x4_1] (fun k_ => some k_ ≠ (.slice (some ad284) x3_1.length co3 : Value).ownBlock) (fun _ => False) rfl rfl ?aP (fun _ hk => hk.elim) ?aF ?aO ?aB ?aS ?aL ?_; (case aP => exact rfl); (case aB => exact (zH HB.out)); (case aF => exact (fun k_ hk => Kd.fresh' (Kd.R_lt (zR HO_3.out)) k_ hk)); (case aO => exact (by (with_reducible repeat (first | apply Kd.R_alloc | apply Kd.R_drewN | apply Kd.R_drew)); exact Kd.R_mono HO294.out (fun _ hk => hk.2))); (case aS => exact (below_size (zH HB.out))); (case aL => have := LMc19.out; omega); intro v296 w27 ho hb hg hat; rw [← Ny295.out] at ho; have n0_ := Aside0.mk (Kd.R_after (ok := (fun _ => True)) (zR HO_3.out) hg hat); have n1_ := Aside0.mk (hb); have n2_ := Aside0.mk ((show Kd.C (Kd.int .i64) w27 (some ad284) y288.length y288 from by rw [Ny288.out]; exact Kd.C_take (m := (x5_2 : Int).toNat) ((Kd.R_reads' (Kd.R_after (ok := (fun _ => True)) (zR HO_3.out) hg hat)).2.2) KL25.out)); have n3_ := Aside0.mk (ho); clear HO_3; clear HB; clear HR291; clear HO294; have HO_3 := n0_; have HB := n1_; have HR291 := n2_; have HO297 := n3_; clear n0_ n1_ n2_ n3_; clear ho hb hg hat; have q28 : (x5_2 : Int) ≤ ((x3_1.length : Int) : Int) := of_decide_eq_true zA; obtain ⟨i028, hi028, _, hsz28, _⟩ := info_parts info3; have hroom28 : x3_1.length ≤ co3 := (Kd.R_reads' HO_3.out).2.1; have hC28 : Kd.C (Kd.int .i64) _ (some ad284) x3_1.length x3_1 := (Kd.R_reads' HO_3.out).2.2; have q028 : (0 : Int) ≤ (x5_2 : Int) := of_decide_eq_true zA; have hcut28 := cut_from (P := Tryd.prog) 30 3 .i64 Tryd.underlying30 hi028 1 hsz28 (some ad284) x3_1.length co3 x5_2 q028 q28; have hr28 := Kd.C_drop (m := (x5_2 : Int).toNat) (c := co3) hC28 (by omega) hroom28; obtain ⟨A28, hA28⟩ : ∃ A1, A1 = (if co3 = (x5_2 : Int).toNat then (some ad284) else ((some ad284) : Option Addr).map (·.add ((x5_2 : Int).toNat * 1))) := ⟨_, rfl⟩; obtain ⟨c28, hc28⟩ : ∃ c1, c1 = co3 - (x5_2 : Int).toNat := ⟨_, rfl⟩; have hy28 : y298.length = x3_1.length - (x5_2 : Int).toNat := (by rw [Ny298.out, List.length_drop] <;> omega); rw [show (x3_1).drop (x5_2 : Int).toNat = y298 from Ny298.out.symm] at hr28; replace hr28 : Kd.C (Kd.int .i64) _ A28 y298.length y298 := (by rw [hA28]; exact hr28); rw [← hy28, ← hA28, ← hc28] at hcut28; have HR301 := Aside0.mk hr28; have HC301 := Aside0.mk (show y298.length ≤ c28 from by rw [hy28, hc28]; exact Nat.sub_le_sub_right hroom28 _); clear hr28 hC28 hroom28 hi028 hsz28 hc28; have KY28 := Aside0.mk hy28; have KA28 := Aside0.mk hA28; clear hy28 hA28; have KL28 := Aside0.mk (show (x5_2 : Int).toNat ≤ x3_1.length from by omega); replace q28 := eq_true q28) | ((with_reducible refine gate_builtin (b := .append) (xs := #[.tmp 41, .tmp 44]) rfl ?_); at_builtin; refine Kd.R_append_rows (Kd.int .i64) (w0 := w) w.heap.size rfl (.tmp 41) (.tmp 44) 30 3 (.int .i64 0) 8 rfl Tryd.underlying30 info3 rfl (by decide) (by omega) v296 y295 y298 _ _ _ (fun k_ => some k_ ≠ (.slice (some ad284) x3_1.length co3 : Value).ownBlock) (fun _ => False) rfl rfl ?aO ?aR (fun _ _ h => h) (fun _ h => h.elim) ?aF ?aB ?aS ?aL ?_; (case aR => repeat (first | exact (by repeat (first | (with_reducible exact HR301.out) | (with_reducible refine Kd.C_alloc ?_ _) | (with_reducible refine Kd.C_drewN ?_ _) | (with_reducible refine Kd.C_drew ?_) | exact HR301.out)) | (with_reducible refine Kd.C_alloc ?_ _) | (with_reducible refine Kd.C_drewN ?_ _) | (with_reducible refine Kd.C_drew ?_))); (case aB => exact (zH HB.out)); (case aF => exact (fun k_ hk => Kd.fresh' (Kd.R_lt (zR HO_3.out)) k_ hk)); (case aO => exact (zR HO297.out)); (case aS => exact (below_size (zH HB.out))); (case aL => have := LMc22.out; omega); intro v303 w29 ho hb hg hat; rw [← Ny302.out] at ho; have n0_ := Aside0.mk (Kd.R_after (ok := (fun _ => True)) (zR HO_3.out) hg hat); have n1_ := Aside0.mk (hb); have n2_ := Aside0.mk ((show Kd.C (Kd.int .i64) w29 (some ad284) y288.length y288 from by rw [Ny288.out]; exact Kd.C_take (m := (x5_2 : Int).toNat) ((Kd.R_reads' (Kd.R_after (ok := (fun _ => True)) (zR HO_3.out) hg hat)).2.2) KL25.out)); have n3_ := Aside0.mk ((show Kd.C (Kd.int .i64) w29 A28 y298.length y298 from by rw [Ny298.out, KA28.out]; exact Kd.C_drop (m := (x5_2 : Int).toNat) (c := co3) ((Kd.R_reads' (Kd.R_after (ok := (fun _ => True)) (zR HO_3.out) hg hat)).2.2) KL28.out ((Kd.R_reads' (Kd.R_after (ok := (fun _ => True)) (zR HO_3.out) hg hat)).2.1))); have n4_ := Aside0.mk (ho); clear HO_3; clear HB; clear HR291; clear HR301; clear HO297; have HO_3 := n0_; have HB := n1_; have HR291 := n2_; have HR301 := n3_; have HO304 := n4_; clear n0_ n1_ n2_ n3_ n4_; clear ho hb hg hat))
                  go_roundg k2
                  case measure => have := HK1.out; have := HK2.out; omega
                  case rel => exact ⟨(y302), (wrap64 (x4_1 + 1)), zS, H', ⟨by have := HK1.out; have := HK2.out; omega⟩, ⟨by (with_reducible repeat (first | apply Kd.R_alloc | apply Kd.R_drewN | apply Kd.R_drew)); exact Kd.R_mono HO304.out (fun _ hk => trivial)⟩, ⟨zH HB.out⟩⟩
                 ·
                  rw [if_neg c22] at H; exact absurd H (by simp)
                ·
                 rw [if_neg c19] at H; exact absurd H (by simp)
               ·
                rw [if_neg c17] at H; exact absurd H (by simp)
              ·
               rw [if_neg c16] at H; exact absurd H (by simp)
            ·
             rw [if_neg c11] at H; exact absurd H (by simp)
           ·
            rw [if_neg c10] at H; exact absurd H (by simp)
          ·
           rw [if_neg c9] at H; exact absurd H (by simp)
         ·
          rw [if_neg c8] at H; exact absurd H (by simp)
        ·
         rw [if_neg c7] at H; exact absurd H (by simp)
       ·
        rw [if_neg c6] at H; exact absurd H (by simp)
      ·
       rw [if_neg c4] at H; have c4b0 : decide (0 < x5_2) = false := decide_eq_false c4; clear c4; by_cases c30 : 0 ≤ x5_2
       ·
        rw [if_pos c30] at H; have c30b0 := eq_true c30; have c30b1 : decide (0 ≤ x5_2) = true := decide_eq_true c30; clear c30; by_cases c31 : x5_2 ≤ (x3_1.length : Int)
        ·
         rw [if_pos c31] at H; have c31b0 := eq_true c31; have c31b1 : decide (x5_2 ≤ (x3_1.length : Int)) = true := decide_eq_true c31; clear c31; obtain ⟨y305, hy305⟩ : ∃ y_ : List Int, y_ = (x3_1.take (x5_2 : Int).toNat) := ⟨_, rfl⟩; replace H : ((pledgeref_Ints.f k2 y305).bind fun t309 => (if t309.length < 17592186044416 then ((some (t309 ++ [x4_1] : List Int)).bind fun y312 => ((some (x3_1.drop (x5_2 : Int).toNat : List Int)).bind fun y315 => (if y312.length + y315.length < 17592186044416 then (pledgeref18_Order.l0 k2 l0 (y312 ++ y315) (wrap64 (x4_1 + 1))) else (none)))) else (none))) = some r := by first | (rw [hy305]; with_reducible exact H) | (have H2_ := (Option.bind_some _ _).symm.trans H; rw [hy305]; with_reducible exact H2_) | (have H2_ := (Option.bind_some _ _).symm.trans H; with_reducible exact H2_) | with_reducible exact H | (rw [hy305]; exact H) | exact H
         have Ny305 := Aside0.mk hy305; clear hy305; replace H := Option.bind_eq_some_iff.mp H; obtain ⟨t309, A320, H⟩ := H; replace H : (if t309.length < 17592186044416 then ((some (t309 ++ [x4_1] : List Int)).bind fun y312 => ((some (x3_1.drop (x5_2 : Int).toNat : List Int)).bind fun y315 => (if y312.length + y315.length < 17592186044416 then (pledgeref18_Order.l0 k2 l0 (y312 ++ y315) (wrap64 (x4_1 + 1))) else (none)))) else (none)) = some r := H; have A32 := Aside0.mk A320; clear A320; by_cases c33 : t309.length < 17592186044416
         ·
          rw [if_pos c33] at H; have LMc33 := Aside0.mk c33; clear c33; obtain ⟨y312, hy312⟩ : ∃ y_ : List Int, y_ = (t309 ++ [x4_1]) := ⟨_, rfl⟩; replace H : ((some (x3_1.drop (x5_2 : Int).toNat : List Int)).bind fun y315 => (if y312.length + y315.length < 17592186044416 then (pledgeref18_Order.l0 k2 l0 (y312 ++ y315) (wrap64 (x4_1 + 1))) else (none))) = some r := by first | (rw [hy312]; with_reducible exact H) | (have H2_ := (Option.bind_some _ _).symm.trans H; rw [hy312]; with_reducible exact H2_) | (have H2_ := (Option.bind_some _ _).symm.trans H; with_reducible exact H2_) | with_reducible exact H | (rw [hy312]; exact H) | exact H
          have Ny312 := Aside0.mk hy312; clear hy312; have c34b0 := eq_true (of_decide_eq_true zA : 0 ≤ x5_2); have c35b0 := eq_true (of_decide_eq_true zA : x5_2 ≤ (x3_1.length : Int)); obtain ⟨y315, hy315⟩ : ∃ y_ : List Int, y_ = (x3_1.drop (x5_2 : Int).toNat) := ⟨_, rfl⟩; replace H : (if y312.length + y315.length < 17592186044416 then (pledgeref18_Order.l0 k2 l0 (y312 ++ y315) (wrap64 (x4_1 + 1))) else (none)) = some r := by first | (rw [hy315]; with_reducible exact H) | (have H2_ := (Option.bind_some _ _).symm.trans H; rw [hy315]; with_reducible exact H2_) | (have H2_ := (Option.bind_some _ _).symm.trans H; with_reducible exact H2_) | with_reducible exact H | (rw [hy315]; exact H) | exact H
          have Ny315 := Aside0.mk hy315; clear hy315; by_cases c36 : y312.length + y315.length < 17592186044416
          ·
           rw [if_pos c36] at H; have LMc36 := Aside0.mk c36; clear c36; obtain ⟨y319, hy319⟩ : ∃ y_ : List Int, y_ = (y312 ++ y315) := ⟨_, rfl⟩; replace H : (pledgeref18_Order.l0 k2 l0 y319 (wrap64 (x4_1 + 1))) = some r := by first | (rw [hy319]; with_reducible exact H) | (have H2_ := (Option.bind_some _ _).symm.trans H; rw [hy319]; with_reducible exact H2_) | (have H2_ := (Option.bind_some _ _).symm.trans H; with_reducible exact H2_) | with_reducible exact H | (rw [hy319]; exact H) | exact H
           have Ny319 := Aside0.mk hy319; clear hy319; have H' := Aside0.mk H; clear H
           try go_wp2
           have n0_ := Aside0.mk (Kd.R_drew HO_3.out); have n1_ := Aside0.mk (below_drew1 HB.out); clear HO_3; clear HB; have HO_3 := n0_; have HB := n1_; clear n0_ n1_; refine start_ (n := 17) (S := fun w' => True) (ds := []) zc898_m0 (by kernel_rfl) rfl rfl trivial (fun hHeld => ?_); refine with_tabW pledgeref18_Order.tab6 pledgeref18_Order.bits6 (fun HT_ HW_ => ?_); generalize wr.drew = w37 at HO_3 HB hHeld ⊢; refine zU 0 15 zc898_m1 HT_ ?_; refine zU 1 16 zc898_m2 HT_ ?_; refine zU 2 17 zc898_m3 HT_ ?_; refine zV 3 18 zc898_m4 HT_ ?_; refine zV 4 19 zc898_m5 HT_ ?_; refine zV 5 20 zc898_m6 HT_ ?_; refine zV 6 21 zc898_m7 HT_ ?_; refine zV 7 22 zc898_m8 HT_ ?_; refine zV 8 23 zc898_m18 HT_ ?_; refine zV 9 24 zc898_m19 HT_ ?_; refine zV 10 25 zc898_m20 HT_ ?_; refine zV 11 26 zc898_m21 HT_ ?_; refine zV 12 27 zc898_m22 HT_ ?_; refine zV 13 28 zc898_m14 HT_ ?_; refine zV 14 29 zc898_m15 HT_ ?_; refine zV 15 30 zc898_m16 HT_ ?_; refine zU 16 31 zc898_m17 HT_ ?_; refine done_ (done_of HT_.out (by kernel_rfl)) ?_; have q38 : (x5_2 : Int) ≤ ((x3_1.length : Int) : Int) := of_decide_eq_true zA; obtain ⟨i038, hi038, _, hsz38, _⟩ := info_parts info3; have hroom38 : x3_1.length ≤ co3 := (Kd.R_reads' HO_3.out).2.1; have hC38 : Kd.C (Kd.int .i64) _ Ao3 x3_1.length x3_1 := (Kd.R_reads' HO_3.out).2.2; have hcut38 := cut_to (P := Tryd.prog) 30 3 .i64 Tryd.underlying30 hi038 Ao3 x3_1.length co3 x5_2 (of_decide_eq_true zA) q38 hroom38; have hr38 := Kd.C_take (m := (x5_2 : Int).toNat) hC38 (by omega); have hy38 : y305.length = (x5_2 : Int).toNat := (by rw [Ny305.out, List.length_take]; omega); rw [← Ny305.out] at hr38; rw [← hy38] at hcut38; have HR308 := Aside0.mk hr38; have HC308 := Aside0.mk (show y305.length ≤ co3 from by omega); clear hr38 hC38 hroom38 hi038 hsz38; have KY38 := Aside0.mk hy38; clear hy38; have KL38 := Aside0.mk (show (x5_2 : Int).toNat ≤ x3_1.length from by omega); replace q38 := eq_true q38
           try go_wp2_with (first | ((with_reducible refine gate_callee (f := 15) rfl ?_); refine goesL_ (some 37) rfl rfl Tryd.func15 (by kernel_rfl) rfl #[.slice Ao3 y305.length co3] rfl zM ?_; (with_reducible refine (pledgeref_Ints.calls k2 _ _ y305 t309 _ ?side1 ?side2 A32.out).mono ?_); (case side1 => repeat (first | exact (by repeat (first | (with_reducible exact HR308.out) | (with_reducible refine Kd.C_alloc ?_ _) | (with_reducible refine Kd.C_drewN ?_ _) | (with_reducible refine Kd.C_drew ?_) | exact HR308.out)) | (with_reducible refine Kd.C_alloc ?_ _) | (with_reducible refine Kd.C_drewN ?_ _) | (with_reducible refine Kd.C_drew ?_))); (case side2 => exact HC308.out); rintro e w39 ⟨v310, rfl, ho0, hb⟩; refine ⟨_, rfl, ?_⟩; have n0_ := Aside0.mk (Kd.R_elder' (zR HO_3.out) (Kd.R_base ho0) hb); have n1_ := Aside0.mk (Kd.R_lower (Kd.R_new' ho0 (Kd.R_lt (zR HO_3.out))) (below_size (zH HB.out))); have n2_ := Aside0.mk (Kd.C_below (by repeat (first | (with_reducible exact HR308.out) | (with_reducible refine Kd.C_alloc ?_ _) | (with_reducible refine Kd.C_drewN ?_ _) | (with_reducible refine Kd.C_drew ?_) | exact HR308.out)) hb); have n3_ := Aside0.mk (below_step (zH HB.out) hb); clear HO_3; clear HR308; clear HB; have HO_3 := n0_; have HO311 := n1_; have HR308 := n2_; have HB := n3_; clear n0_ n1_ n2_ n3_; (try clear hb); (try clear hb2); (try clear hk); (try clear hi); (try clear ho0)) | ((with_reducible refine gate_builtin (b := .append) (xs := #[.tmp 37, .tmp 39]) rfl ?_); at_builtin; refine Kd.R_append (Kd.int .i64) (w0 := w) w.heap.size rfl (.tmp 37) (.tmp 39) 30 3 (.int .i64 0) 8 rfl Tryd.underlying30 info3 rfl (by decide) (by omega) v310 t309 x4_1 [.int .i64 x4_1] (fun k_ => some k_ ≠ (.slice Ao3 x3_1.length co3 : Value).ownBlock) (fun _ => False) rfl rfl ?aP (fun _ hk => hk.elim) ?aF ?aO ?aB ?aS ?aL ?_; (case aP => exact rfl); (case aB => exact (zH HB.out)); (case aF => exact (fun k_ hk => Kd.fresh' (Kd.R_lt (zR HO_3.out)) k_ hk)); (case aO => exact (by (with_reducible repeat (first | apply Kd.R_alloc | apply Kd.R_drewN | apply Kd.R_drew)); exact Kd.R_mono HO311.out (fun _ hk => hk.2))); (case aS => exact (below_size (zH HB.out))); (case aL => have := LMc33.out; omega); intro v313 w40 ho hb hg hat; rw [← Ny312.out] at ho; have n0_ := Aside0.mk (Kd.R_after (ok := (fun _ => True)) (zR HO_3.out) hg hat); have n1_ := Aside0.mk (hb); have n2_ := Aside0.mk ((show Kd.C (Kd.int .i64) w40 Ao3 y305.length y305 from by rw [Ny305.out]; exact Kd.C_take (m := (x5_2 : Int).toNat) ((Kd.R_reads' (Kd.R_after (ok := (fun _ => True)) (zR HO_3.out) hg hat)).2.2) KL38.out)); have n3_ := Aside0.mk (ho); clear HO_3; clear HB; clear HR308; clear HO311; have HO_3 := n0_; have HB := n1_; have HR308 := n2_; have HO314 := n3_; clear n0_ n1_ n2_ n3_; clear ho hb hg hat; have q41 : (x5_2 : Int) ≤ ((x3_1.length : Int) : Int) := of_decide_eq_true zA; obtain ⟨i041, hi041, _, hsz41, _⟩ := info_parts info3; have hroom41 : x3_1.length ≤ co3 := (Kd.R_reads' HO_3.out).2.1; have hC41 : Kd.C (Kd.int .i64) _ Ao3 x3_1.length x3_1 := (Kd.R_reads' HO_3.out).2.2; have q041 : (0 : Int) ≤ (x5_2 : Int) := of_decide_eq_true zA; have hcut41 := cut_from (P := Tryd.prog) 30 3 .i64 Tryd.underlying30 hi041 1 hsz41 Ao3 x3_1.length co3 x5_2 q041 q41; have hr41 := Kd.C_drop (m := (x5_2 : Int).toNat) (c := co3) hC41 (by omega) hroom41; obtain ⟨A41, hA41⟩ : ∃ A1, A1 = (if co3 = (x5_2 : Int).toNat then Ao3 else (Ao3 : Option Addr).map (·.add ((x5_2 : Int).toNat * 1))) := ⟨_, rfl⟩; obtain ⟨c41, hc41⟩ : ∃ c1, c1 = co3 - (x5_2 : Int).toNat := ⟨_, rfl⟩; have hy41 : y315.length = x3_1.length - (x5_2 : Int).toNat := (by rw [Ny315.out, List.length_drop] <;> omega); rw [show (x3_1).drop (x5_2 : Int).toNat = y315 from Ny315.out.symm] at hr41; replace hr41 : Kd.C (Kd.int .i64) _ A41 y315.length y315 := (by rw [hA41]; exact hr41); rw [← hy41, ← hA41, ← hc41] at hcut41; have HR318 := Aside0.mk hr41; have HC318 := Aside0.mk (show y315.length ≤ c41 from by rw [hy41, hc41]; exact Nat.sub_le_sub_right hroom41 _); clear hr41 hC41 hroom41 hi041 hsz41 hc41; have KY41 := Aside0.mk hy41; have KA41 := Aside0.mk hA41; clear hy41 hA41; have KL41 := Aside0.mk (show (x5_2 : Int).toNat ≤ x3_1.length from by omega); replace q41 := eq_true q41) | ((with_reducible refine gate_builtin (b := .append) (xs := #[.tmp 41, .tmp 44]) rfl ?_); at_builtin; refine Kd.R_append_rows (Kd.int .i64) (w0 := w) w.heap.size rfl (.tmp 41) (.tmp 44) 30 3 (.int .i64 0) 8 rfl Tryd.underlying30 info3 rfl (by decide) (by omega) v313 y312 y315 _ _ _ (fun k_ => some k_ ≠ (.slice Ao3 x3_1.length co3 : Value).ownBlock) (fun _ => False) rfl rfl ?aO ?aR (fun _ _ h => h) (fun _ h => h.elim) ?aF ?aB ?aS ?aL ?_; (case aR => repeat (first | exact (by repeat (first | (with_reducible exact HR318.out) | (with_reducible refine Kd.C_alloc ?_ _) | (with_reducible refine Kd.C_drewN ?_ _) | (with_reducible refine Kd.C_drew ?_) | exact HR318.out)) | (with_reducible refine Kd.C_alloc ?_ _) | (with_reducible refine Kd.C_drewN ?_ _) | (with_reducible refine Kd.C_drew ?_))); (case aB => exact (zH HB.out)); (case aF => exact (fun k_ hk => Kd.fresh' (Kd.R_lt (zR HO_3.out)) k_ hk)); (case aO => exact (zR HO314.out)); (case aS => exact (below_size (zH HB.out))); (case aL => have := LMc36.out; omega); intro v320 w42 ho hb hg hat; rw [← Ny319.out] at ho; have n0_ := Aside0.mk (Kd.R_after (ok := (fun _ => True)) (zR HO_3.out) hg hat); have n1_ := Aside0.mk (hb); have n2_ := Aside0.mk ((show Kd.C (Kd.int .i64) w42 Ao3 y305.length y305 from by rw [Ny305.out]; exact Kd.C_take (m := (x5_2 : Int).toNat) ((Kd.R_reads' (Kd.R_after (ok := (fun _ => True)) (zR HO_3.out) hg hat)).2.2) KL38.out)); have n3_ := Aside0.mk ((show Kd.C (Kd.int .i64) w42 A41 y315.length y315 from by rw [Ny315.out, KA41.out]; exact Kd.C_drop (m := (x5_2 : Int).toNat) (c := co3) ((Kd.R_reads' (Kd.R_after (ok := (fun _ => True)) (zR HO_3.out) hg hat)).2.2) KL41.out ((Kd.R_reads' (Kd.R_after (ok := (fun _ => True)) (zR HO_3.out) hg hat)).2.1))); have n4_ := Aside0.mk (ho); clear HO_3; clear HB; clear HR308; clear HR318; clear HO314; have HO_3 := n0_; have HB := n1_; have HR308 := n2_; have HR318 := n3_; have HO321 := n4_; clear n0_ n1_ n2_ n3_ n4_; clear ho hb hg hat))
           go_roundg k2
           case measure => have := HK1.out; have := HK2.out; omega
           case rel => exact ⟨(y319), (wrap64 (x4_1 + 1)), zS, H', ⟨by have := HK1.out; have := HK2.out; omega⟩, ⟨by (with_reducible repeat (first | apply Kd.R_alloc | apply Kd.R_drewN | apply Kd.R_drew)); exact Kd.R_mono HO321.out (fun _ hk => trivial)⟩, ⟨zH HB.out⟩⟩
          ·
           rw [if_neg c36] at H; exact absurd H (by simp)
         ·
          rw [if_neg c33] at H; exact absurd H (by simp)
        ·
         rw [if_neg c31] at H; exact absurd H (by simp)
       ·
        rw [if_neg c30] at H; exact absurd H (by simp)
   ·
    rw [if_neg c2] at H; have c2b0 : decide (x4_1 < (l0.length : Int)) = false := decide_eq_false c2; clear c2; obtain rfl := Option.some.inj H
    go_wp2
    go_ret
    exact ⟨_, zE, by (with_reducible repeat (first | apply Kd.R_alloc | apply Kd.R_drewN | apply Kd.R_drew)); exact HO_3.out, zH HB.out⟩

end Go.Proofs.YtlalofmilhakjaaDoor.ELotsSay
