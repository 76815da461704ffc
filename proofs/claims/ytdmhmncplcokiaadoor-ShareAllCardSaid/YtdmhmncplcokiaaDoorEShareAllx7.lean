/- The functions that the law comes to, as plain functions, and for each a proof that the Go code comes to just these answers. Written by a program of this claim. Conditions: each theorem bears its own. -/
import Derived.Test.YtdmhmncplcokiaaDoorEShareAllx0
import Derived.Test.YtdmhmncplcokiaaDoorEShareAllx5
import Derived.Test.YtdmhmncplcokiaaDoorEShareAllx6
namespace Go.Proofs.YtdmhmncplcokiaaDoor.EShareAll
open Go.RowKit Go.Proofs.YtdmhmncplcokiaaDoorW.PrintWords Go.Proofs.YtdmhmncplcokiaaDoorW.PrintLast Go.Proofs.YtdmhmncplcokiaaDoorW.PrintMore Go.Proofs.YtdmhmncplcokiaaDoorW.PrintOpen
attribute [local go_sem] max2_int min2_int max_two min_two max_three min_three max_four min_four   -- for this text's walks alone
set_option linter.unusedVariables false
set_option linter.unusedSimpArgs false

/-! ### pledgelaw23_ShareAll: function 4 -/
mutual
def pledgelaw23_ShareAll.j0 : Nat → Int → List Int → Bool → List Int → Bool → Option (Bool)
  | 0, _, _, _, _, _ => none
  | k + 1, x0, x1, x5, x6, x33 => if x33 = true then (if x5 = true then (some ((x6.length : Int) == 0)) else (some false)) else (pledgelaw23_ShareAll.l0 k x0 x1 x6 0 0 0)
def pledgelaw23_ShareAll.l0 : Nat → Int → List Int → List Int → Int → Int → Int → Option (Bool)
  | 0, _, _, _, _, _, _ => none
  | k + 1, x0, x1, x6, x8, x9, x10 => if x10 < (x1.length : Int) then (if 0 ≤ x10 then (pledgelaw23_ShareAll.l0 k x0 x1 x6 x8 (wrap64 (x9 + (rd x1 x10))) (wrap64 (x10 + 1))) else (none)) else (pledgelaw23_ShareAll.l1 k x0 x1 x6 x8 x9 0)
def pledgelaw23_ShareAll.l1 : Nat → Int → List Int → List Int → Int → Int → Int → Option (Bool)
  | 0, _, _, _, _, _, _ => none
  | k + 1, x0, x1, x6, x8, x9, x11 => if x11 < (x6.length : Int) then (if 0 ≤ x11 then (if x9 > 0 then (if x11 < (x1.length : Int) then ((pledgeref1_Div.f k x0 (rd x1 x11) x9 false).bind fun bt188 => (pledgelaw23_ShareAll.j3 k x0 x1 x6 (wrap64 (x8 + (rd x6 x11))) x9 x11 bt188.1)) else (none)) else (pledgelaw23_ShareAll.j3 k x0 x1 x6 (wrap64 (x8 + (rd x6 x11))) x9 x11 0)) else (none)) else (if (x6.length : Int) = (x1.length : Int) then (if x8 = x0 then (some true) else (if (x1.length : Int) = 0 then (some (x0 == 0)) else (some false))) else (some false))
def pledgelaw23_ShareAll.j3 : Nat → Int → List Int → List Int → Int → Int → Int → Int → Option (Bool)
  | 0, _, _, _, _, _, _, _ => none
  | k + 1, x0, x1, x6, x8, x9, x11, x12 => if 0 ≤ x11 then (if x11 < (x6.length : Int) then (if (rd x6 x11) = x12 then (pledgelaw23_ShareAll.j4 k x0 x1 x6 x8 x9 x11 false) else (pledgelaw23_ShareAll.j4 k x0 x1 x6 x8 x9 x11 ((rd x6 x11) != (wrap64 (x12 + 1))))) else (none)) else (none)
def pledgelaw23_ShareAll.j4 : Nat → Int → List Int → List Int → Int → Int → Int → Bool → Option (Bool)
  | 0, _, _, _, _, _, _, _ => none
  | k + 1, x0, x1, x6, x8, x9, x11, x90 => if x90 = true then (some false) else (pledgelaw23_ShareAll.l2 k x0 x1 x6 x8 x9 x11 0)
def pledgelaw23_ShareAll.l2 : Nat → Int → List Int → List Int → Int → Int → Int → Int → Option (Bool)
  | 0, _, _, _, _, _, _, _ => none
  | k + 1, x0, x1, x6, x8, x9, x11, x13 => if x13 < (x6.length : Int) then (if 0 ≤ x11 then (if x11 < (x1.length : Int) then (if 0 ≤ x13 then (if x13 < (x1.length : Int) then (if (rd x1 x11) > (rd x1 x13) then (if x11 < (x6.length : Int) then (if (rd x6 x11) < (rd x6 x13) then (some false) else (if (rd x1 x11) = (rd x1 x13) then (if x11 < x13 then (pledgelaw23_ShareAll.l2 k x0 x1 x6 x8 x9 x11 (wrap64 (x13 + 1))) else (pledgelaw23_ShareAll.l2 k x0 x1 x6 x8 x9 x11 (wrap64 (x13 + 1)))) else (pledgelaw23_ShareAll.l2 k x0 x1 x6 x8 x9 x11 (wrap64 (x13 + 1))))) else (none)) else (if (rd x1 x11) = (rd x1 x13) then (if x11 < x13 then (if x11 < (x6.length : Int) then (if (rd x6 x11) < (rd x6 x13) then (some false) else (pledgelaw23_ShareAll.l2 k x0 x1 x6 x8 x9 x11 (wrap64 (x13 + 1)))) else (none)) else (pledgelaw23_ShareAll.l2 k x0 x1 x6 x8 x9 x11 (wrap64 (x13 + 1)))) else (pledgelaw23_ShareAll.l2 k x0 x1 x6 x8 x9 x11 (wrap64 (x13 + 1))))) else (none)) else (none)) else (none)) else (none)) else (pledgelaw23_ShareAll.l1 k x0 x1 x6 x8 x9 (wrap64 (x11 + 1)))
end
def pledgelaw23_ShareAll.f (k : Nat) (a0 : Int) (l1 : List Int) : Option (Bool) := (pledgelaw23_first.f k).bind fun t179 => (if t179 = true then ((share_Split.f a0 l1).bind fun bt180 => (if bt180.2.isNone = true then (if (l1.length : Int) > 32 then (pledgelaw23_ShareAll.j0 k a0 l1 t179 bt180.1 true) else (pledgelaw23_ShareAll.j0 k a0 l1 t179 bt180.1 (!t179))) else (pledgelaw23_ShareAll.j0 k a0 l1 t179 bt180.1 true))) else (some false))
theorem pledgelaw23_ShareAll.mono_l : ∀ k, (∀ y0 y1 y2 y3 y4, LeO (pledgelaw23_ShareAll.j0 k y0 y1 y2 y3 y4) (pledgelaw23_ShareAll.j0 (k + 1) y0 y1 y2 y3 y4)) ∧ (∀ y0 y1 y2 y3 y4 y5, LeO (pledgelaw23_ShareAll.l0 k y0 y1 y2 y3 y4 y5) (pledgelaw23_ShareAll.l0 (k + 1) y0 y1 y2 y3 y4 y5)) ∧ (∀ y0 y1 y2 y3 y4 y5, LeO (pledgelaw23_ShareAll.l1 k y0 y1 y2 y3 y4 y5) (pledgelaw23_ShareAll.l1 (k + 1) y0 y1 y2 y3 y4 y5)) ∧ (∀ y0 y1 y2 y3 y4 y5 y6, LeO (pledgelaw23_ShareAll.j3 k y0 y1 y2 y3 y4 y5 y6) (pledgelaw23_ShareAll.j3 (k + 1) y0 y1 y2 y3 y4 y5 y6)) ∧ (∀ y0 y1 y2 y3 y4 y5 y6, LeO (pledgelaw23_ShareAll.j4 k y0 y1 y2 y3 y4 y5 y6) (pledgelaw23_ShareAll.j4 (k + 1) y0 y1 y2 y3 y4 y5 y6)) ∧ (∀ y0 y1 y2 y3 y4 y5 y6, LeO (pledgelaw23_ShareAll.l2 k y0 y1 y2 y3 y4 y5 y6) (pledgelaw23_ShareAll.l2 (k + 1) y0 y1 y2 y3 y4 y5 y6))
  | 0 => ⟨fun _ _ _ _ _ r h => by simp [pledgelaw23_ShareAll.j0] at h, fun _ _ _ _ _ _ r h => by simp [pledgelaw23_ShareAll.l0] at h, fun _ _ _ _ _ _ r h => by simp [pledgelaw23_ShareAll.l1] at h, fun _ _ _ _ _ _ _ r h => by simp [pledgelaw23_ShareAll.j3] at h, fun _ _ _ _ _ _ _ r h => by simp [pledgelaw23_ShareAll.j4] at h, fun _ _ _ _ _ _ _ r h => by simp [pledgelaw23_ShareAll.l2] at h⟩
  | k + 1 => by
    obtain ⟨ih0, ih1, ih2, ih3, ih4, ih5⟩ := pledgelaw23_ShareAll.mono_l k
    refine ⟨?_, ?_, ?_, ?_, ?_, ?_⟩
    · intro y0 y1 y2 y3 y4
      unfold pledgelaw23_ShareAll.j0
      repeat' first
      | (with_reducible exact ih0 _ _ _ _ _)
      | (with_reducible exact ih1 _ _ _ _ _ _)
      | (with_reducible exact ih2 _ _ _ _ _ _)
      | (with_reducible exact ih3 _ _ _ _ _ _ _)
      | (with_reducible exact ih4 _ _ _ _ _ _ _)
      | (with_reducible exact ih5 _ _ _ _ _ _ _)
      | (with_reducible exact pledgelaw23_first.mono _)
      | (with_reducible exact pledgeref1_Div.mono _ _ _ _ _)
      | (with_reducible exact LeO.refl _)
      | (with_reducible exact LeO.none _)
      | (with_reducible refine LeO.ite ?_ ?_)
      | (with_reducible refine LeO.bind ?_ (fun _ => ?_))
      | exact ih0 _ _ _ _ _
      | exact ih1 _ _ _ _ _ _
      | exact ih2 _ _ _ _ _ _
      | exact ih3 _ _ _ _ _ _ _
      | exact ih4 _ _ _ _ _ _ _
      | exact ih5 _ _ _ _ _ _ _
      | exact pledgelaw23_first.mono _
      | exact pledgeref1_Div.mono _ _ _ _ _
      | exact LeO.none _
      | refine LeO.ite ?_ ?_
      | refine LeO.bind ?_ (fun _ => ?_)
    · intro y0 y1 y2 y3 y4 y5
      unfold pledgelaw23_ShareAll.l0
      repeat' first
      | (with_reducible exact ih0 _ _ _ _ _)
      | (with_reducible exact ih1 _ _ _ _ _ _)
      | (with_reducible exact ih2 _ _ _ _ _ _)
      | (with_reducible exact ih3 _ _ _ _ _ _ _)
      | (with_reducible exact ih4 _ _ _ _ _ _ _)
      | (with_reducible exact ih5 _ _ _ _ _ _ _)
      | (with_reducible exact pledgelaw23_first.mono _)
      | (with_reducible exact pledgeref1_Div.mono _ _ _ _ _)
      | (with_reducible exact LeO.refl _)
      | (with_reducible exact LeO.none _)
      | (with_reducible refine LeO.ite ?_ ?_)
      | (with_reducible refine LeO.bind ?_ (fun _ => ?_))
      | exact ih0 _ _ _ _ _
      | exact ih1 _ _ _ _ _ _
      | exact ih2 _ _ _ _ _ _
      | exact ih3 _ _ _ _ _ _ _
      | exact ih4 _ _ _ _ _ _ _
      | exact ih5 _ _ _ _ _ _ _
      | exact pledgelaw23_first.mono _
      | exact pledgeref1_Div.mono _ _ _ _ _
      | exact LeO.none _
      | refine LeO.ite ?_ ?_
      | refine LeO.bind ?_ (fun _ => ?_)
    · intro y0 y1 y2 y3 y4 y5
      unfold pledgelaw23_ShareAll.l1
      repeat' first
      | (with_reducible exact ih0 _ _ _ _ _)
      | (with_reducible exact ih1 _ _ _ _ _ _)
      | (with_reducible exact ih2 _ _ _ _ _ _)
      | (with_reducible exact ih3 _ _ _ _ _ _ _)
      | (with_reducible exact ih4 _ _ _ _ _ _ _)
      | (with_reducible exact ih5 _ _ _ _ _ _ _)
      | (with_reducible exact pledgelaw23_first.mono _)
      | (with_reducible exact pledgeref1_Div.mono _ _ _ _ _)
      | (with_reducible exact LeO.refl _)
      | (with_reducible exact LeO.none _)
      | (with_reducible refine LeO.ite ?_ ?_)
      | (with_reducible refine LeO.bind ?_ (fun _ => ?_))
      | exact ih0 _ _ _ _ _
      | exact ih1 _ _ _ _ _ _
      | exact ih2 _ _ _ _ _ _
      | exact ih3 _ _ _ _ _ _ _
      | exact ih4 _ _ _ _ _ _ _
      | exact ih5 _ _ _ _ _ _ _
      | exact pledgelaw23_first.mono _
      | exact pledgeref1_Div.mono _ _ _ _ _
      | exact LeO.none _
      | refine LeO.ite ?_ ?_
      | refine LeO.bind ?_ (fun _ => ?_)
    · intro y0 y1 y2 y3 y4 y5 y6
      unfold pledgelaw23_ShareAll.j3
      repeat' first
      | (with_reducible exact ih0 _ _ _ _ _)
      | (with_reducible exact ih1 _ _ _ _ _ _)
      | (with_reducible exact ih2 _ _ _ _ _ _)
      | (with_reducible exact ih3 _ _ _ _ _ _ _)
      | (with_reducible exact ih4 _ _ _ _ _ _ _)
      | (with_reducible exact ih5 _ _ _ _ _ _ _)
      | (with_reducible exact pledgelaw23_first.mono _)
      | (with_reducible exact pledgeref1_Div.mono _ _ _ _ _)
      | (with_reducible exact LeO.refl _)
      | (with_reducible exact LeO.none _)
      | (with_reducible refine LeO.ite ?_ ?_)
      | (with_reducible refine LeO.bind ?_ (fun _ => ?_))
      | exact ih0 _ _ _ _ _
      | exact ih1 _ _ _ _ _ _
      | exact ih2 _ _ _ _ _ _
      | exact ih3 _ _ _ _ _ _ _
      | exact ih4 _ _ _ _ _ _ _
      | exact ih5 _ _ _ _ _ _ _
      | exact pledgelaw23_first.mono _
      | exact pledgeref1_Div.mono _ _ _ _ _
      | exact LeO.none _
      | refine LeO.ite ?_ ?_
      | refine LeO.bind ?_ (fun _ => ?_)
    · intro y0 y1 y2 y3 y4 y5 y6
      unfold pledgelaw23_ShareAll.j4
      repeat' first
      | (with_reducible exact ih0 _ _ _ _ _)
      | (with_reducible exact ih1 _ _ _ _ _ _)
      | (with_reducible exact ih2 _ _ _ _ _ _)
      | (with_reducible exact ih3 _ _ _ _ _ _ _)
      | (with_reducible exact ih4 _ _ _ _ _ _ _)
      | (with_reducible exact ih5 _ _ _ _ _ _ _)
      | (with_reducible exact pledgelaw23_first.mono _)
      | (with_reducible exact pledgeref1_Div.mono _ _ _ _ _)
      | (with_reducible exact LeO.refl _)
      | (with_reducible exact LeO.none _)
      | (with_reducible refine LeO.ite ?_ ?_)
      | (with_reducible refine LeO.bind ?_ (fun _ => ?_))
      | exact ih0 _ _ _ _ _
      | exact ih1 _ _ _ _ _ _
      | exact ih2 _ _ _ _ _ _
      | exact ih3 _ _ _ _ _ _ _
      | exact ih4 _ _ _ _ _ _ _
      | exact ih5 _ _ _ _ _ _ _
      | exact pledgelaw23_first.mono _
      | exact pledgeref1_Div.mono _ _ _ _ _
      | exact LeO.none _
      | refine LeO.ite ?_ ?_
      | refine LeO.bind ?_ (fun _ => ?_)
    · intro y0 y1 y2 y3 y4 y5 y6
      unfold pledgelaw23_ShareAll.l2
      repeat' first
      | (with_reducible exact ih0 _ _ _ _ _)
      | (with_reducible exact ih1 _ _ _ _ _ _)
      | (with_reducible exact ih2 _ _ _ _ _ _)
      | (with_reducible exact ih3 _ _ _ _ _ _ _)
      | (with_reducible exact ih4 _ _ _ _ _ _ _)
      | (with_reducible exact ih5 _ _ _ _ _ _ _)
      | (with_reducible exact pledgelaw23_first.mono _)
      | (with_reducible exact pledgeref1_Div.mono _ _ _ _ _)
      | (with_reducible exact LeO.refl _)
      | (with_reducible exact LeO.none _)
      | (with_reducible refine LeO.ite ?_ ?_)
      | (with_reducible refine LeO.bind ?_ (fun _ => ?_))
      | exact ih0 _ _ _ _ _
      | exact ih1 _ _ _ _ _ _
      | exact ih2 _ _ _ _ _ _
      | exact ih3 _ _ _ _ _ _ _
      | exact ih4 _ _ _ _ _ _ _
      | exact ih5 _ _ _ _ _ _ _
      | exact pledgelaw23_first.mono _
      | exact pledgeref1_Div.mono _ _ _ _ _
      | exact LeO.none _
      | refine LeO.ite ?_ ?_
      | refine LeO.bind ?_ (fun _ => ?_)
theorem pledgelaw23_ShareAll.mono : ∀ a0 a1 k, LeO (pledgelaw23_ShareAll.f k a0 a1) (pledgelaw23_ShareAll.f (k + 1) a0 a1) := by
  intro a0 a1 k
  obtain ⟨ih0, ih1, ih2, ih3, ih4, ih5⟩ := pledgelaw23_ShareAll.mono_l k
  unfold pledgelaw23_ShareAll.f
  repeat' first
      | (with_reducible exact ih0 _ _ _ _ _)
      | (with_reducible exact ih1 _ _ _ _ _ _)
      | (with_reducible exact ih2 _ _ _ _ _ _)
      | (with_reducible exact ih3 _ _ _ _ _ _ _)
      | (with_reducible exact ih4 _ _ _ _ _ _ _)
      | (with_reducible exact ih5 _ _ _ _ _ _ _)
      | (with_reducible exact pledgelaw23_first.mono _)
      | (with_reducible exact pledgeref1_Div.mono _ _ _ _ _)
      | (with_reducible exact LeO.refl _)
      | (with_reducible exact LeO.none _)
      | (with_reducible refine LeO.ite ?_ ?_)
      | (with_reducible refine LeO.bind ?_ (fun _ => ?_))
      | exact ih0 _ _ _ _ _
      | exact ih1 _ _ _ _ _ _
      | exact ih2 _ _ _ _ _ _
      | exact ih3 _ _ _ _ _ _ _
      | exact ih4 _ _ _ _ _ _ _
      | exact ih5 _ _ _ _ _ _ _
      | exact pledgelaw23_first.mono _
      | exact pledgeref1_Div.mono _ _ _ _ _
      | exact LeO.none _
      | refine LeO.ite ?_ ?_
      | refine LeO.bind ?_ (fun _ => ?_)
set_option maxHeartbeats 8000000 in
set_option maxRecDepth 100000 in
theorem pledgelaw23_ShareAll.calls [Inhabited (Int → Addr)] (k : Nat) (a0 : Int) (A1 : Option Addr) (c1 : Nat) (l1 : List Int) (r : Bool) (w : World) (hG : GlobOK w) (hr1 : Kd.C (Kd.int .i64) w A1 l1.length l1) (hc1 : l1.length ≤ c1) (h : pledgelaw23_ShareAll.f k a0 l1 = some r) :
    Calls Tryd.prog 4 #[.int .i64 a0, .slice A1 l1.length c1] w fun e w' => e = .returned (.bool r) ∧ Below w.heap.size w w' := by
  have hu25 := Tryd.underlying25
  have hu93 := Tryd.underlying93
  have HG := Aside0.mk hG
  clear hG
  have HR1 := Aside0.mk hr1
  have HC1 := Aside0.mk hc1
  clear hr1 hc1
  have HB := Aside0.mk (Below.refl w.heap.size w)
  have H : ((pledgelaw23_first.f k).bind fun t179 => (if t179 = true then ((share_Split.f a0 l1).bind fun bt180 => (if bt180.2.isNone = true then (if (l1.length : Int) > 32 then (pledgelaw23_ShareAll.j0 k a0 l1 t179 bt180.1 true) else (pledgelaw23_ShareAll.j0 k a0 l1 t179 bt180.1 (!t179))) else (pledgelaw23_ShareAll.j0 k a0 l1 t179 bt180.1 true))) else (some false))) = some r := h
  clear h
  replace H := Option.bind_eq_some_iff.mp H
  obtain ⟨t179, A30, H⟩ := H
  replace H : (if t179 = true then ((share_Split.f a0 l1).bind fun bt180 => (if bt180.2.isNone = true then (if (l1.length : Int) > 32 then (pledgelaw23_ShareAll.j0 k a0 l1 t179 bt180.1 true) else (pledgelaw23_ShareAll.j0 k a0 l1 t179 bt180.1 (!t179))) else (pledgelaw23_ShareAll.j0 k a0 l1 t179 bt180.1 true))) else (some false)) = some r := H
  have A3 := Aside0.mk A30
  clear A30
  by_cases c4 : t179 = true
  · subst c4
    have H1 : ((share_Split.f a0 l1).bind fun bt180 => (if bt180.2.isNone = true then (if (l1.length : Int) > 32 then (pledgelaw23_ShareAll.j0 k a0 l1 true bt180.1 true) else (pledgelaw23_ShareAll.j0 k a0 l1 true bt180.1 (!true))) else (pledgelaw23_ShareAll.j0 k a0 l1 true bt180.1 true))) = some r := by rw [if_pos rfl] at H; exact H
    clear H
    have H := H1
    clear H1
    replace H := Option.bind_eq_some_iff.mp H
    obtain ⟨⟨t180, t181⟩, A50, H⟩ := H
    replace H : (if t181.isNone = true then (if (l1.length : Int) > 32 then (pledgelaw23_ShareAll.j0 k a0 l1 true t180 true) else (pledgelaw23_ShareAll.j0 k a0 l1 true t180 (!true))) else (pledgelaw23_ShareAll.j0 k a0 l1 true t180 true)) = some r := H
    have A5 := Aside0.mk A50
    clear A50
    have HC6 := Aside0.mk H
    clear H
    go_enter Tryd.func4, Tryd.ntmps4
    go_upto_region 5 with (first | (go_at_call 7; (with_reducible refine (pledgelaw23_first.calls k  true _ ?side1 A3.out).mono ?_); (case side1 => exact GlobOK.below HG.out (by repeat (first | (with_reducible first | exact HB.out | apply below_alloc | apply pw_below_drewN | apply below_drew1) | exact HB.out))); rintro e w7 ⟨rfl, hb⟩; have n0_ := Aside0.mk (below_step (by repeat (first | (with_reducible first | exact HB.out | apply below_alloc | apply pw_below_drewN | apply below_drew1) | exact HB.out)) hb); clear HB; have HB := n0_; clear n0_; (try clear hb); (try clear hb2); (try clear hk); (try clear hi)) | (go_at_call 8; (with_reducible refine (share_Split.calls a0 _ _ l1 t180 t181 _ ?side1 ?side2 ?side3 A5.out).mono ?_); (case side1 => exact GlobOK.below HG.out (by repeat (first | (with_reducible first | exact HB.out | apply below_alloc | apply pw_below_drewN | apply below_drew1) | exact HB.out))); (case side2 => repeat (first | exact (Kd.C_below HR1.out HB.out) | (with_reducible refine Kd.C_alloc ?_ _) | (with_reducible refine Kd.C_drewN ?_ _) | (with_reducible refine Kd.C_drew ?_))); (case side3 => exact HC1.out); rintro e w8 ⟨v182, rfl, ho0, hb⟩; have n0_ := Aside0.mk (Kd.R_lower ho0 (below_size (by repeat (first | (with_reducible first | exact HB.out | apply below_alloc | apply pw_below_drewN | apply below_drew1) | exact HB.out)))); have n1_ := Aside0.mk (below_step (by repeat (first | (with_reducible first | exact HB.out | apply below_alloc | apply pw_below_drewN | apply below_drew1) | exact HB.out)) hb); clear HB; have HO183 := n0_; have HB := n1_; clear n0_ n1_; (try clear hb); (try clear hb2); (try clear hk); (try clear hi); (try clear ho0); (try simp only [errW_none, errW_some])))
    repeat (go_quiet (first | (go_at_call 7; (try simp only [i64_w, i32_w]); (with_reducible refine (pledgelaw23_first.calls k  true _ ?side1 A3.out).mono ?_); (case side1 => exact GlobOK.below HG.out (by repeat (first | (with_reducible first | exact HB.out | apply below_alloc | apply pw_below_drewN | apply below_drew1) | exact HB.out))); rintro e w7 ⟨rfl, hb⟩; have n0_ := Aside0.mk (below_step (by repeat (first | (with_reducible first | exact HB.out | apply below_alloc | apply pw_below_drewN | apply below_drew1) | exact HB.out)) hb); clear HB; have HB := n0_; clear n0_; (try clear hb); (try clear hb2); (try clear hk); (try clear hi)) | (go_at_call 8; (try simp only [i64_w, i32_w]); (with_reducible refine (share_Split.calls a0 _ _ l1 t180 t181 _ ?side1 ?side2 ?side3 A5.out).mono ?_); (case side1 => exact GlobOK.below HG.out (by repeat (first | (with_reducible first | exact HB.out | apply below_alloc | apply pw_below_drewN | apply below_drew1) | exact HB.out))); (case side2 => repeat (first | exact (Kd.C_below HR1.out HB.out) | (with_reducible refine Kd.C_alloc ?_ _) | (with_reducible refine Kd.C_drewN ?_ _) | (with_reducible refine Kd.C_drew ?_))); (case side3 => exact HC1.out); rintro e w8 ⟨v182, rfl, ho0, hb⟩; have n0_ := Aside0.mk (Kd.R_lower ho0 (below_size (by repeat (first | (with_reducible first | exact HB.out | apply below_alloc | apply pw_below_drewN | apply below_drew1) | exact HB.out)))); have n1_ := Aside0.mk (below_step (by repeat (first | (with_reducible first | exact HB.out | apply below_alloc | apply pw_below_drewN | apply below_drew1) | exact HB.out)) hb); clear HB; have HO183 := n0_; have HB := n1_; clear n0_ n1_; (try clear hb); (try clear hb2); (try clear hk); (try clear hi); (try clear ho0); (try simp only [errW_none, errW_some]))); go_upto_region 5 with (first | (go_at_call 7; (try simp only [i64_w, i32_w]); (with_reducible refine (pledgelaw23_first.calls k  true _ ?side1 A3.out).mono ?_); (case side1 => exact GlobOK.below HG.out (by repeat (first | (with_reducible first | exact HB.out | apply below_alloc | apply pw_below_drewN | apply below_drew1) | exact HB.out))); rintro e w7 ⟨rfl, hb⟩; have n0_ := Aside0.mk (below_step (by repeat (first | (with_reducible first | exact HB.out | apply below_alloc | apply pw_below_drewN | apply below_drew1) | exact HB.out)) hb); clear HB; have HB := n0_; clear n0_; (try clear hb); (try clear hb2); (try clear hk); (try clear hi)) | (go_at_call 8; (try simp only [i64_w, i32_w]); (with_reducible refine (share_Split.calls a0 _ _ l1 t180 t181 _ ?side1 ?side2 ?side3 A5.out).mono ?_); (case side1 => exact GlobOK.below HG.out (by repeat (first | (with_reducible first | exact HB.out | apply below_alloc | apply pw_below_drewN | apply below_drew1) | exact HB.out))); (case side2 => repeat (first | exact (Kd.C_below HR1.out HB.out) | (with_reducible refine Kd.C_alloc ?_ _) | (with_reducible refine Kd.C_drewN ?_ _) | (with_reducible refine Kd.C_drew ?_))); (case side3 => exact HC1.out); rintro e w8 ⟨v182, rfl, ho0, hb⟩; have n0_ := Aside0.mk (Kd.R_lower ho0 (below_size (by repeat (first | (with_reducible first | exact HB.out | apply below_alloc | apply pw_below_drewN | apply below_drew1) | exact HB.out)))); have n1_ := Aside0.mk (below_step (by repeat (first | (with_reducible first | exact HB.out | apply below_alloc | apply pw_below_drewN | apply below_drew1) | exact HB.out)) hb); clear HB; have HO183 := n0_; have HB := n1_; clear n0_ n1_; (try clear hb); (try clear hb2); (try clear hk); (try clear hi); (try clear ho0); (try simp only [errW_none, errW_some]))))
    (try simp only [Act.put, List.setIfInBounds_toArray, List.set_cons_zero, List.set_cons_succ])
    go_cut [33] (fun v33 wc => ∃ (kq : Nat) (x33_5 : Bool), v33 = .bool x33_5 ∧ Aside0 (pledgelaw23_ShareAll.j0 kq a0 l1 true t180 x33_5 = some r) ∧ Aside0 (kq ≤ k) ∧ Aside0 (Kd.R (Kd.int .i64) 2 wc w.heap.size (fun _ => True) v182 t180) ∧ Aside0 (Below w.heap.size w wc))
    case first =>
      have H := HC6.out
      clear HC6
      rcases t181 with _ | q184
      · have H1 : (if (l1.length : Int) > 32 then (pledgelaw23_ShareAll.j0 k a0 l1 true t180 true) else (pledgelaw23_ShareAll.j0 k a0 l1 true t180 (!true))) = some r := by rw [if_pos (show (none : Option Int).isNone = true by rfl)] at H; exact H
        clear H
        have H := H1
        clear H1
        try simp only [errW_none, errW_some]
        by_cases c9 : (l1.length : Int) > 32
        · rw [if_pos c9] at H
          have c9b0 : decide (32 < (l1.length : Int)) = true := decide_eq_true c9
          have c9b1 : decide (32 < l1.length) = true := decide_eq_true (by omega)
          clear c9
          (first | rw [c9b0] | (simp only [i64_w, i32_w]; rw [c9b0]) | skip)
          have H' := Aside0.mk H
          clear H
          go_wp2
          repeat (go_quiet (fail); try go_wp2)
          go_meet
          case rel => exact ⟨_, (true), (by first | rfl | (simp; done) | (simp [*]; done) | (simp [wrap64]; done) | (simp [wrap64]; omega)), H', ⟨by first | omega | exact Nat.le_refl _⟩, ⟨by (with_reducible repeat (first | apply Kd.R_alloc | apply Kd.R_drewN | apply Kd.R_drew)); exact HO183.out⟩, ⟨by repeat (first | (with_reducible first | exact HB.out | apply below_alloc | apply pw_below_drewN | apply below_drew1) | exact HB.out)⟩⟩
        · rw [if_neg c9] at H
          have c9b0 : decide (32 < (l1.length : Int)) = false := decide_eq_false c9
          have c9b1 : decide (32 < l1.length) = false := decide_eq_false (by omega)
          clear c9
          (first | rw [c9b0] | (simp only [i64_w, i32_w]; rw [c9b0]) | skip)
          have H' := Aside0.mk H
          clear H
          go_wp2
          repeat (go_quiet (fail); try go_wp2)
          go_meet
          case rel => exact ⟨_, (!true), (by first | rfl | (simp; done) | (simp [*]; done) | (simp [wrap64]; done) | (simp [wrap64]; omega)), H', ⟨by first | omega | exact Nat.le_refl _⟩, ⟨by (with_reducible repeat (first | apply Kd.R_alloc | apply Kd.R_drewN | apply Kd.R_drew)); exact HO183.out⟩, ⟨by repeat (first | (with_reducible first | exact HB.out | apply below_alloc | apply pw_below_drewN | apply below_drew1) | exact HB.out)⟩⟩
      · have H1 : (pledgelaw23_ShareAll.j0 k a0 l1 true t180 true) = some r := by rw [if_neg (show ¬ (some q184).isNone = true by simp)] at H; exact H
        clear H
        have H := H1
        clear H1
        try simp only [errW_none, errW_some]
        have H' := Aside0.mk H
        clear H
        go_wp2
        repeat (go_quiet (fail); try go_wp2)
        go_meet
        case rel => exact ⟨_, (true), (by first | rfl | (simp; done) | (simp [*]; done) | (simp [wrap64]; done) | (simp [wrap64]; omega)), H', ⟨by first | omega | exact Nat.le_refl _⟩, ⟨by (with_reducible repeat (first | apply Kd.R_alloc | apply Kd.R_drewN | apply Kd.R_drew)); exact HO183.out⟩, ⟨by repeat (first | (with_reducible first | exact HB.out | apply below_alloc | apply pw_below_drewN | apply below_drew1) | exact HB.out)⟩⟩
    case rest =>
      clear HC6
      try clear c1
      try clear q1
      try clear p2
      try clear c4
      try clear c9
      try clear c9b0
      try clear c9b1
      try clear q184
      obtain ⟨kq, x33_5, rfl, HA, HJ5, HO_6, HB⟩ := hcut
      cases kq with
      | zero => exact absurd HA.out (by simp [pledgelaw23_ShareAll.j0])
      | succ kj5 =>
        have H := HA.out
        clear HA
        simp only [pledgelaw23_ShareAll.j0] at H
        by_cases c10 : x33_5 = true
        · subst c10
          have H1 : (if true = true then (some ((t180.length : Int) == 0)) else (some false)) = some r := by rw [if_pos rfl] at H; exact H
          clear H
          have H := H1
          clear H1
          have H1 : (some ((t180.length : Int) == 0)) = some r := by first | (rw [if_pos rfl] at H; exact H) | (rw [if_pos trivial] at H; exact H)
          clear H
          have H := H1
          clear H1
          obtain rfl := Option.some.inj H
          obtain ⟨Ao11, co11, eo11⟩ := Kd.R_slice HO_6.out
          subst eo11
          go_wp2
          repeat (go_quiet (fail); try go_wp2)
          go_ret
          exact ⟨by first | rfl | (simp [errW_none, errW_some] <;> rfl) | (exfalso; simp_all; done) | (simp [*, errW_none, errW_some] <;> rfl), by repeat (first | (with_reducible first | exact HB.out | apply below_alloc | apply pw_below_drewN | apply below_drew1) | exact HB.out)⟩
        · replace c10 := Bool.eq_false_iff.mpr c10
          subst c10
          have H1 : (pledgelaw23_ShareAll.l0 kj5 a0 l1 t180 0 0 0) = some r := by rw [if_neg (show ¬ (false = true) by decide)] at H; exact H
          clear H
          have H := H1
          clear H1
          have H' := Aside0.mk H
          clear H
          go_wp2
          repeat (go_quiet (fail); try go_wp2)
          go_loopg [9, 10] kj5 (fun kq v9 v10 w' => ∃ (x9_2 : Int) (x10_2 : Int), v9 = .int .i64 x9_2 ∧ v10 = .int .i64 x10_2 ∧ Aside0 (pledgelaw23_ShareAll.l0 kq a0 l1 t180 0 x9_2 x10_2 = some r) ∧ Aside0 (kq ≤ kj5) ∧ Aside0 (Kd.R (Kd.int .i64) 2 w' w.heap.size (fun _ => True) v182 t180) ∧ Aside0 (Below w.heap.size w w'))
          case atStart => exact ⟨(0), (0), (by first | rfl | (simp; done) | (simp [*]; done) | (simp [wrap64]; done) | (simp [wrap64]; omega)), (by first | rfl | (simp; done) | (simp [*]; done) | (simp [wrap64]; done) | (simp [wrap64]; omega)), H', ⟨Nat.le_refl _⟩, ⟨by (with_reducible repeat (first | apply Kd.R_alloc | apply Kd.R_drewN | apply Kd.R_drew)); exact HO_6.out⟩, ⟨by repeat (first | (with_reducible first | exact HB.out | apply below_alloc | apply pw_below_drewN | apply below_drew1) | exact HB.out)⟩⟩
          case round =>
            clear H'
            try clear c1
            try clear q1
            try clear p2
            try clear c4
            try clear c9
            try clear c9b0
            try clear c9b1
            try clear c10
            try clear p2
            try clear q1
            try clear q184
            obtain ⟨x9_2, x10_2, rfl, rfl, HA, HK2, HO_6, HB⟩ := hrel
            cases gk with
            | zero => exact absurd HA.out (by simp [pledgelaw23_ShareAll.l0])
            | succ k2 =>
              have H := HA.out
              clear HA
              simp only [pledgelaw23_ShareAll.l0] at H
              by_cases c12 : x10_2 < (l1.length : Int)
              · rw [if_pos c12] at H
                have c12b0 : decide (x10_2 < (l1.length : Int)) = true := decide_eq_true c12
                clear c12
                by_cases c13 : 0 ≤ x10_2
                · rw [if_pos c13] at H
                  have c13b0 : decide (0 ≤ x10_2) = true := decide_eq_true c13
                  clear c13
                  have H' := Aside0.mk H
                  clear H
                  have p185 : 0 ≤ (x10_2 : Int) := of_decide_eq_true (by first | (with_reducible assumption) | assumption)
                  have q185 : x10_2 < (l1.length : Int) := of_decide_eq_true (by first | (with_reducible assumption) | assumption)
                  obtain ⟨ad185, e185, hx185_0⟩ := Kd.at_int HR1.out x10_2 p185 q185
                  cases e185
                  replace hx185_0 := (HB.out.cell (World.block_lt_of_cell? w _ hx185_0)).trans hx185_0
                  replace p185 := eq_true p185
                  replace q185 := eq_true q185
                  go_wp2
                  repeat (go_quiet (fail); try go_wp2)
                  go_roundg k2
                  case measure => have := HJ5.out; have := HK2.out; omega
                  case rel => exact ⟨(wrap64 (x9_2 + (rd l1 x10_2))), (wrap64 (x10_2 + 1)), (by first | rfl | (simp; done) | (simp [*]; done) | (simp [wrap64]; done) | (simp [wrap64]; omega)), (by first | rfl | (simp; done) | (simp [*]; done) | (simp [wrap64]; done) | (simp [wrap64]; omega)), H', ⟨by have := HJ5.out; have := HK2.out; omega⟩, ⟨by (with_reducible repeat (first | apply Kd.R_alloc | apply Kd.R_drewN | apply Kd.R_drew)); exact HO_6.out⟩, ⟨by repeat (first | (with_reducible first | exact HB.out | apply below_alloc | apply pw_below_drewN | apply below_drew1) | exact HB.out)⟩⟩
                · rw [if_neg c13] at H
                  exact absurd H (by simp)
              · rw [if_neg c12] at H
                have c12b0 : decide (x10_2 < (l1.length : Int)) = false := decide_eq_false c12
                clear c12
                have H' := Aside0.mk H
                clear H
                go_wp2
                repeat (go_quiet (fail); try go_wp2)
                go_loopg [8, 11] k2 (fun kq v8 v11 w' => ∃ (x8_3 : Int) (x11_3 : Int), v8 = .int .i64 x8_3 ∧ v11 = .int .i64 x11_3 ∧ Aside0 (pledgelaw23_ShareAll.l1 kq a0 l1 t180 x8_3 x9_2 x11_3 = some r) ∧ Aside0 (kq ≤ k2) ∧ Aside0 (Kd.R (Kd.int .i64) 2 w' w.heap.size (fun _ => True) v182 t180) ∧ Aside0 (Below w.heap.size w w'))
                case atStart => exact ⟨(0), (0), (by first | rfl | (simp; done) | (simp [*]; done) | (simp [wrap64]; done) | (simp [wrap64]; omega)), (by first | rfl | (simp; done) | (simp [*]; done) | (simp [wrap64]; done) | (simp [wrap64]; omega)), H', ⟨Nat.le_refl _⟩, ⟨by (with_reducible repeat (first | apply Kd.R_alloc | apply Kd.R_drewN | apply Kd.R_drew)); exact HO_6.out⟩, ⟨by repeat (first | (with_reducible first | exact HB.out | apply below_alloc | apply pw_below_drewN | apply below_drew1) | exact HB.out)⟩⟩
                case round =>
                  clear H'
                  try clear c1
                  try clear p1
                  try clear q1
                  try clear hx1
                  try clear p2
                  try clear c4
                  try clear p6
                  try clear c9
                  try clear c9b0
                  try clear c9b1
                  try clear c10
                  try clear c12
                  try clear c12b0
                  try clear c13
                  try clear c13b0
                  try clear hx185_0
                  try clear p185
                  try clear p2
                  try clear q1
                  try clear q184
                  try clear q185
                  obtain ⟨x8_3, x11_3, rfl, rfl, HA, HK3, HO_6, HB⟩ := hrel
                  cases gk with
                  | zero => exact absurd HA.out (by simp [pledgelaw23_ShareAll.l1])
                  | succ k3 =>
                    have H := HA.out
                    clear HA
                    simp only [pledgelaw23_ShareAll.l1] at H
                    by_cases c14 : x11_3 < (t180.length : Int)
                    · rw [if_pos c14] at H
                      have c14b0 : decide (x11_3 < (t180.length : Int)) = true := decide_eq_true c14
                      clear c14
                      by_cases c15 : 0 ≤ x11_3
                      · rw [if_pos c15] at H
                        have c15b0 : decide (0 ≤ x11_3) = true := decide_eq_true c15
                        clear c15
                        have HC16 := Aside0.mk H
                        clear H
                        obtain ⟨Ao17, co17, eo17⟩ := Kd.R_slice HO_6.out
                        subst eo17
                        have p186 : 0 ≤ (x11_3 : Int) := of_decide_eq_true (by first | (with_reducible assumption) | assumption)
                        have q186 : x11_3 < (t180.length : Int) := of_decide_eq_true (by first | (with_reducible assumption) | assumption)
                        obtain ⟨ad186, e186, hx186_0⟩ := Kd.at_int (Kd.R_reads' HO_6.out).2.2 x11_3 p186 q186
                        cases e186
                        replace p186 := eq_true p186
                        replace q186 := eq_true q186
                        go_upto_if 65 with (fail)
                        repeat (go_quiet (fail); go_upto_if 65 with (fail))
                        go_cut [12] (fun v12 wc => ∃ (kq : Nat) (x12_15 : Int), v12 = .int .i64 x12_15 ∧ Aside0 (pledgelaw23_ShareAll.j3 kq a0 l1 t180 (wrap64 (x8_3 + (rd t180 x11_3))) x9_2 x11_3 x12_15 = some r) ∧ Aside0 (kq ≤ k3) ∧ Aside0 (Kd.R (Kd.int .i64) 2 wc w.heap.size (fun _ => True) (.slice (some ad186) t180.length co17) t180) ∧ Aside0 (Below w.heap.size w wc))
                        case first =>
                          have H := HC16.out
                          clear HC16
                          by_cases c18 : x9_2 > 0
                          · rw [if_pos c18] at H
                            have c18b0 : decide (0 < x9_2) = true := decide_eq_true c18
                            clear c18
                            (first | rw [c18b0] | (simp only [i64_w, i32_w]; rw [c18b0]) | skip)
                            by_cases c19 : x11_3 < (l1.length : Int)
                            · rw [if_pos c19] at H
                              have c19b0 : decide (x11_3 < (l1.length : Int)) = true := decide_eq_true c19
                              clear c19
                              replace H := Option.bind_eq_some_iff.mp H
                              obtain ⟨⟨t188, t189⟩, A200, H⟩ := H
                              replace H : (pledgelaw23_ShareAll.j3 k3 a0 l1 t180 (wrap64 (x8_3 + (rd t180 x11_3))) x9_2 x11_3 t188) = some r := H
                              have A20 := Aside0.mk A200
                              clear A200
                              have H' := Aside0.mk H
                              clear H
                              have p187 : 0 ≤ (x11_3 : Int) := of_decide_eq_true (by first | (with_reducible assumption) | assumption)
                              have q187 : x11_3 < (l1.length : Int) := of_decide_eq_true (by first | (with_reducible assumption) | assumption)
                              obtain ⟨ad187, e187, hx187_0⟩ := Kd.at_int HR1.out x11_3 p187 q187
                              cases e187
                              replace hx187_0 := (HB.out.cell (World.block_lt_of_cell? w _ hx187_0)).trans hx187_0
                              replace p187 := eq_true p187
                              replace q187 := eq_true q187
                              go_wp2_with (first | (go_at_call 14; (with_reducible refine (pledgeref1_Div.calls k3 a0 (rd l1 x11_3) x9_2 false t188 t189 _ A20.out).mono ?_); rintro e w' ⟨rfl, ⟨nd, rfl⟩⟩; (try first | exact ⟨rfl, _, World.drewN_drewN _ _ _⟩ | exact ⟨rfl, _, Eq.trans (World.drewN_drewN _ _ _) (congrArg (World.drewN _) (Nat.add_assoc _ _ _))⟩)))
                              repeat (go_quiet (first | (go_at_call 14; (try simp only [i64_w, i32_w]); (with_reducible refine (pledgeref1_Div.calls k3 a0 (rd l1 x11_3) x9_2 false t188 t189 _ A20.out).mono ?_); rintro e w' ⟨rfl, ⟨nd, rfl⟩⟩; (try first | exact ⟨rfl, _, World.drewN_drewN _ _ _⟩ | exact ⟨rfl, _, Eq.trans (World.drewN_drewN _ _ _) (congrArg (World.drewN _) (Nat.add_assoc _ _ _))⟩))); try go_wp2_with (first | (go_at_call 14; (try simp only [i64_w, i32_w]); (with_reducible refine (pledgeref1_Div.calls k3 a0 (rd l1 x11_3) x9_2 false t188 t189 _ A20.out).mono ?_); rintro e w' ⟨rfl, ⟨nd, rfl⟩⟩; (try first | exact ⟨rfl, _, World.drewN_drewN _ _ _⟩ | exact ⟨rfl, _, Eq.trans (World.drewN_drewN _ _ _) (congrArg (World.drewN _) (Nat.add_assoc _ _ _))⟩))))
                              go_meet
                              case rel => exact ⟨_, (t188), (by first | rfl | (simp; done) | (simp [*]; done) | (simp [wrap64]; done) | (simp [wrap64]; omega)), H', ⟨by have := HJ5.out; have := HK2.out; have := HK3.out; first | omega | exact Nat.le_refl _⟩, ⟨by (with_reducible repeat (first | apply Kd.R_alloc | apply Kd.R_drewN | apply Kd.R_drew)); exact HO_6.out⟩, ⟨by repeat (first | (with_reducible first | exact HB.out | apply below_alloc | apply pw_below_drewN | apply below_drew1) | exact HB.out)⟩⟩
                            · rw [if_neg c19] at H
                              exact absurd H (by simp)
                          · rw [if_neg c18] at H
                            have c18b0 : decide (0 < x9_2) = false := decide_eq_false c18
                            clear c18
                            (first | rw [c18b0] | (simp only [i64_w, i32_w]; rw [c18b0]) | skip)
                            have H' := Aside0.mk H
                            clear H
                            go_wp2
                            repeat (go_quiet (fail); try go_wp2)
                            go_meet
                            case rel => exact ⟨_, (0), (by first | rfl | (simp; done) | (simp [*]; done) | (simp [wrap64]; done) | (simp [wrap64]; omega)), H', ⟨by have := HJ5.out; have := HK2.out; have := HK3.out; first | omega | exact Nat.le_refl _⟩, ⟨by (with_reducible repeat (first | apply Kd.R_alloc | apply Kd.R_drewN | apply Kd.R_drew)); exact HO_6.out⟩, ⟨by repeat (first | (with_reducible first | exact HB.out | apply below_alloc | apply pw_below_drewN | apply below_drew1) | exact HB.out)⟩⟩
                        case rest =>
                          clear HC16
                          try clear c1
                          try clear p1
                          try clear q1
                          try clear hx1
                          try clear p2
                          try clear c4
                          try clear p6
                          try clear c9
                          try clear c9b0
                          try clear c9b1
                          try clear c10
                          try clear c12
                          try clear c12b0
                          try clear c13
                          try clear c13b0
                          try clear c14
                          try clear c14b0
                          try clear c15
                          try clear c15b0
                          try clear c18
                          try clear c18b0
                          try clear p18
                          try clear q18
                          try clear hx18
                          try clear c19
                          try clear c19b0
                          try clear hx185_0
                          try clear hx186_0
                          try clear hx187_0
                          try clear p1
                          try clear p185
                          try clear p186
                          try clear p187
                          try clear p2
                          try clear p6
                          try clear q1
                          try clear q184
                          try clear q185
                          try clear q186
                          try clear q187
                          obtain ⟨kq, x12_15, rfl, HA, HJ15, HO_6, HB⟩ := hcut
                          cases kq with
                          | zero => exact absurd HA.out (by simp [pledgelaw23_ShareAll.j3])
                          | succ kj15 =>
                            have H := HA.out
                            clear HA
                            simp only [pledgelaw23_ShareAll.j3] at H
                            have HC21 := Aside0.mk H
                            clear H
                            go_upto_region 20 with (fail)
                            repeat (go_quiet (fail); go_upto_region 20 with (fail))
                            go_cut [90] (fun v90 wc => ∃ (kq : Nat) (x90_20 : Bool), v90 = .bool x90_20 ∧ Aside0 (pledgelaw23_ShareAll.j4 kq a0 l1 t180 (wrap64 (x8_3 + (rd t180 x11_3))) x9_2 x11_3 x90_20 = some r) ∧ Aside0 (kq ≤ kj15) ∧ Aside0 (Kd.R (Kd.int .i64) 2 wc w.heap.size (fun _ => True) (.slice (some ad186) t180.length co17) t180) ∧ Aside0 (Below w.heap.size w wc))
                            case first =>
                              have H := HC21.out
                              clear HC21
                              by_cases c22 : 0 ≤ x11_3
                              · rw [if_pos c22] at H
                                have c22b0 : decide (0 ≤ x11_3) = true := decide_eq_true c22
                                clear c22
                                (first | rw [c22b0] | (simp only [i64_w, i32_w]; rw [c22b0]) | skip)
                                by_cases c23 : x11_3 < (t180.length : Int)
                                · rw [if_pos c23] at H
                                  have c23b0 : decide (x11_3 < (t180.length : Int)) = true := decide_eq_true c23
                                  clear c23
                                  by_cases c24 : (rd t180 x11_3) = x12_15
                                  · rw [if_pos c24] at H
                                    have c24b0 : ((rd t180 x11_3) == x12_15) = true := beq_iff_eq.mpr c24
                                    have c24b1 : ((rd t180 x11_3) != x12_15) = false := bne_eq_false_iff_eq.mpr c24
                                    clear c24
                                    have H' := Aside0.mk H
                                    clear H
                                    have p190 : 0 ≤ (x11_3 : Int) := of_decide_eq_true (by first | (with_reducible assumption) | assumption)
                                    have q190 : x11_3 < (t180.length : Int) := of_decide_eq_true (by first | (with_reducible assumption) | assumption)
                                    obtain ⟨ad190, e190, hx190_0⟩ := Kd.at_int (Kd.R_reads' HO_6.out).2.2 x11_3 p190 q190
                                    obtain rfl : ad186 = ad190 := (by injection e190)
                                    replace p190 := eq_true p190
                                    replace q190 := eq_true q190
                                    go_wp2
                                    repeat (go_quiet (fail); try go_wp2)
                                    go_meet
                                    case rel => exact ⟨_, (false), (by first | rfl | (simp; done) | (simp [*]; done) | (simp [wrap64]; done) | (simp [wrap64]; omega)), H', ⟨by have := HJ5.out; have := HK2.out; have := HK3.out; have := HJ15.out; first | omega | exact Nat.le_refl _⟩, ⟨by (with_reducible repeat (first | apply Kd.R_alloc | apply Kd.R_drewN | apply Kd.R_drew)); exact HO_6.out⟩, ⟨by repeat (first | (with_reducible first | exact HB.out | apply below_alloc | apply pw_below_drewN | apply below_drew1) | exact HB.out)⟩⟩
                                  · rw [if_neg c24] at H
                                    have c24b0 : ((rd t180 x11_3) == x12_15) = false := beq_eq_false_iff_ne.mpr c24
                                    have c24b1 : ((rd t180 x11_3) != x12_15) = true := bne_iff_ne.mpr c24
                                    have H' := Aside0.mk H
                                    clear H
                                    have p190 : 0 ≤ (x11_3 : Int) := of_decide_eq_true (by first | (with_reducible assumption) | assumption)
                                    have q190 : x11_3 < (t180.length : Int) := of_decide_eq_true (by first | (with_reducible assumption) | assumption)
                                    obtain ⟨ad190, e190, hx190_0⟩ := Kd.at_int (Kd.R_reads' HO_6.out).2.2 x11_3 p190 q190
                                    obtain rfl : ad186 = ad190 := (by injection e190)
                                    replace p190 := eq_true p190
                                    replace q190 := eq_true q190
                                    have p191 : 0 ≤ (x11_3 : Int) := of_decide_eq_true (by first | (with_reducible assumption) | assumption)
                                    have q191 : x11_3 < (t180.length : Int) := of_decide_eq_true (by first | (with_reducible assumption) | assumption)
                                    obtain ⟨ad191, e191, hx191_0⟩ := Kd.at_int (Kd.R_reads' HO_6.out).2.2 x11_3 p191 q191
                                    obtain rfl : ad186 = ad191 := (by injection e191)
                                    replace p191 := eq_true p191
                                    replace q191 := eq_true q191
                                    go_wp2
                                    repeat (go_quiet (fail); try go_wp2)
                                    go_meet
                                    case rel => exact ⟨_, (((rd t180 x11_3) != (wrap64 (x12_15 + 1)))), (by first | rfl | (simp; done) | (simp [*]; done) | (simp [wrap64]; done) | (simp [wrap64]; omega)), H', ⟨by have := HJ5.out; have := HK2.out; have := HK3.out; have := HJ15.out; first | omega | exact Nat.le_refl _⟩, ⟨by (with_reducible repeat (first | apply Kd.R_alloc | apply Kd.R_drewN | apply Kd.R_drew)); exact HO_6.out⟩, ⟨by repeat (first | (with_reducible first | exact HB.out | apply below_alloc | apply pw_below_drewN | apply below_drew1) | exact HB.out)⟩⟩
                                · rw [if_neg c23] at H
                                  exact absurd H (by simp)
                              · rw [if_neg c22] at H
                                exact absurd H (by simp)
                            case rest =>
                              clear HC21
                              try clear c1
                              try clear p1
                              try clear q1
                              try clear hx1
                              try clear c2
                              try clear p2
                              try clear c4
                              try clear p6
                              try clear c9
                              try clear c9b0
                              try clear c9b1
                              try clear c10
                              try clear c12
                              try clear c12b0
                              try clear c13
                              try clear c13b0
                              try clear c14
                              try clear c14b0
                              try clear c15
                              try clear c15b0
                              try clear c18
                              try clear c18b0
                              try clear p18
                              try clear q18
                              try clear hx18
                              try clear c19
                              try clear c19b0
                              try clear p19
                              try clear q19
                              try clear hx19
                              try clear c22
                              try clear c22b0
                              try clear c23
                              try clear c23b0
                              try clear c24
                              try clear c24b0
                              try clear c24b1
                              try clear hx185_0
                              try clear hx186_0
                              try clear hx187_0
                              try clear hx190_0
                              try clear hx191_0
                              try clear p1
                              try clear p18
                              try clear p185
                              try clear p186
                              try clear p187
                              try clear p190
                              try clear p191
                              try clear p2
                              try clear p6
                              try clear q1
                              try clear q18
                              try clear q184
                              try clear q185
                              try clear q186
                              try clear q187
                              try clear q190
                              try clear q191
                              obtain ⟨kq, x90_20, rfl, HA, HJ20, HO_6, HB⟩ := hcut
                              cases kq with
                              | zero => exact absurd HA.out (by simp [pledgelaw23_ShareAll.j4])
                              | succ kj20 =>
                                have H := HA.out
                                clear HA
                                simp only [pledgelaw23_ShareAll.j4] at H
                                by_cases c25 : x90_20 = true
                                · subst c25
                                  have H1 : (some false) = some r := by rw [if_pos rfl] at H; exact H
                                  clear H
                                  have H := H1
                                  clear H1
                                  obtain rfl := Option.some.inj H
                                  go_wp2
                                  repeat (go_quiet (fail); try go_wp2)
                                  go_ret
                                  exact ⟨by first | rfl | (simp [errW_none, errW_some] <;> rfl) | (exfalso; simp_all; done) | (simp [*, errW_none, errW_some] <;> rfl), by repeat (first | (with_reducible first | exact HB.out | apply below_alloc | apply pw_below_drewN | apply below_drew1) | exact HB.out)⟩
                                · replace c25 := Bool.eq_false_iff.mpr c25
                                  subst c25
                                  have H1 : (pledgelaw23_ShareAll.l2 kj20 a0 l1 t180 (wrap64 (x8_3 + (rd t180 x11_3))) x9_2 x11_3 0) = some r := by rw [if_neg (show ¬ (false = true) by decide)] at H; exact H
                                  clear H
                                  have H := H1
                                  clear H1
                                  have H' := Aside0.mk H
                                  clear H
                                  go_wp2
                                  repeat (go_quiet (fail); try go_wp2)
                                  go_loopg [13] kj20 (fun kq v13 w' => ∃ (x13_6 : Int), v13 = .int .i64 x13_6 ∧ Aside0 (pledgelaw23_ShareAll.l2 kq a0 l1 t180 (wrap64 (x8_3 + (rd t180 x11_3))) x9_2 x11_3 x13_6 = some r) ∧ Aside0 (kq ≤ kj20) ∧ Aside0 (Kd.R (Kd.int .i64) 2 w' w.heap.size (fun _ => True) (.slice (some ad186) t180.length co17) t180) ∧ Aside0 (Below w.heap.size w w'))
                                  case atStart => exact ⟨(0), (by first | rfl | (simp; done) | (simp [*]; done) | (simp [wrap64]; done) | (simp [wrap64]; omega)), H', ⟨Nat.le_refl _⟩, ⟨by (with_reducible repeat (first | apply Kd.R_alloc | apply Kd.R_drewN | apply Kd.R_drew)); exact HO_6.out⟩, ⟨by repeat (first | (with_reducible first | exact HB.out | apply below_alloc | apply pw_below_drewN | apply below_drew1) | exact HB.out)⟩⟩
                                  case round =>
                                    clear H'
                                    try clear c1
                                    try clear p1
                                    try clear q1
                                    try clear hx1
                                    try clear c2
                                    try clear p2
                                    try clear c4
                                    try clear p6
                                    try clear c9
                                    try clear c9b0
                                    try clear c9b1
                                    try clear c10
                                    try clear c12
                                    try clear c12b0
                                    try clear c13
                                    try clear c13b0
                                    try clear c14
                                    try clear c14b0
                                    try clear c15
                                    try clear c15b0
                                    try clear c18
                                    try clear c18b0
                                    try clear p18
                                    try clear q18
                                    try clear hx18
                                    try clear c19
                                    try clear c19b0
                                    try clear p19
                                    try clear q19
                                    try clear hx19
                                    try clear c22
                                    try clear c22b0
                                    try clear c23
                                    try clear c23b0
                                    try clear c24
                                    try clear c24b0
                                    try clear c24b1
                                    try clear c25
                                    try clear hx185_0
                                    try clear hx186_0
                                    try clear hx187_0
                                    try clear hx190_0
                                    try clear hx191_0
                                    try clear p1
                                    try clear p18
                                    try clear p185
                                    try clear p186
                                    try clear p187
                                    try clear p19
                                    try clear p190
                                    try clear p191
                                    try clear p2
                                    try clear p6
                                    try clear q1
                                    try clear q18
                                    try clear q184
                                    try clear q185
                                    try clear q186
                                    try clear q187
                                    try clear q19
                                    try clear q190
                                    try clear q191
                                    obtain ⟨x13_6, rfl, HA, HK6, HO_6, HB⟩ := hrel
                                    cases gk with
                                    | zero => exact absurd HA.out (by simp [pledgelaw23_ShareAll.l2])
                                    | succ k6 =>
                                      have H := HA.out
                                      clear HA
                                      simp only [pledgelaw23_ShareAll.l2] at H
                                      by_cases c26 : x13_6 < (t180.length : Int)
                                      · rw [if_pos c26] at H
                                        have c26b0 : decide (x13_6 < (t180.length : Int)) = true := decide_eq_true c26
                                        clear c26
                                        by_cases c27 : 0 ≤ x11_3
                                        · rw [if_pos c27] at H
                                          have c27b0 : decide (0 ≤ x11_3) = true := decide_eq_true c27
                                          clear c27
                                          by_cases c28 : x11_3 < (l1.length : Int)
                                          · rw [if_pos c28] at H
                                            have c28b0 : decide (x11_3 < (l1.length : Int)) = true := decide_eq_true c28
                                            clear c28
                                            by_cases c29 : 0 ≤ x13_6
                                            · rw [if_pos c29] at H
                                              have c29b0 : decide (0 ≤ x13_6) = true := decide_eq_true c29
                                              clear c29
                                              by_cases c30 : x13_6 < (l1.length : Int)
                                              · rw [if_pos c30] at H
                                                have c30b0 : decide (x13_6 < (l1.length : Int)) = true := decide_eq_true c30
                                                clear c30
                                                by_cases c31 : (rd l1 x11_3) > (rd l1 x13_6)
                                                · rw [if_pos c31] at H
                                                  have c31b0 : decide ((rd l1 x13_6) < (rd l1 x11_3)) = true := decide_eq_true c31
                                                  clear c31
                                                  by_cases c32 : x11_3 < (t180.length : Int)
                                                  · rw [if_pos c32] at H
                                                    have c32b0 : decide (x11_3 < (t180.length : Int)) = true := decide_eq_true c32
                                                    clear c32
                                                    by_cases c33 : (rd t180 x11_3) < (rd t180 x13_6)
                                                    · rw [if_pos c33] at H
                                                      have c33b0 : decide ((rd t180 x11_3) < (rd t180 x13_6)) = true := decide_eq_true c33
                                                      clear c33
                                                      obtain rfl := Option.some.inj H
                                                      have p192 : 0 ≤ (x11_3 : Int) := of_decide_eq_true (by first | (with_reducible assumption) | assumption)
                                                      have q192 : x11_3 < (l1.length : Int) := of_decide_eq_true (by first | (with_reducible assumption) | assumption)
                                                      obtain ⟨ad192, e192, hx192_0⟩ := Kd.at_int HR1.out x11_3 p192 q192
                                                      cases e192
                                                      replace hx192_0 := (HB.out.cell (World.block_lt_of_cell? w _ hx192_0)).trans hx192_0
                                                      replace p192 := eq_true p192
                                                      replace q192 := eq_true q192
                                                      have p193 : 0 ≤ (x13_6 : Int) := of_decide_eq_true (by first | (with_reducible assumption) | assumption)
                                                      have q193 : x13_6 < (l1.length : Int) := of_decide_eq_true (by first | (with_reducible assumption) | assumption)
                                                      obtain ⟨ad193, e193, hx193_0⟩ := Kd.at_int HR1.out x13_6 p193 q193
                                                      obtain rfl : ad192 = ad193 := (by injection e193)
                                                      replace hx193_0 := (HB.out.cell (World.block_lt_of_cell? w _ hx193_0)).trans hx193_0
                                                      replace p193 := eq_true p193
                                                      replace q193 := eq_true q193
                                                      have p194 : 0 ≤ (x11_3 : Int) := of_decide_eq_true (by first | (with_reducible assumption) | assumption)
                                                      have q194 : x11_3 < (t180.length : Int) := of_decide_eq_true (by first | (with_reducible assumption) | assumption)
                                                      obtain ⟨ad194, e194, hx194_0⟩ := Kd.at_int (Kd.R_reads' HO_6.out).2.2 x11_3 p194 q194
                                                      obtain rfl : ad186 = ad194 := (by injection e194)
                                                      replace p194 := eq_true p194
                                                      replace q194 := eq_true q194
                                                      have p195 : 0 ≤ (x13_6 : Int) := of_decide_eq_true (by first | (with_reducible assumption) | assumption)
                                                      have q195 : x13_6 < (t180.length : Int) := of_decide_eq_true (by first | (with_reducible assumption) | assumption)
                                                      obtain ⟨ad195, e195, hx195_0⟩ := Kd.at_int (Kd.R_reads' HO_6.out).2.2 x13_6 p195 q195
                                                      obtain rfl : ad186 = ad195 := (by injection e195)
                                                      replace p195 := eq_true p195
                                                      replace q195 := eq_true q195
                                                      go_wp2
                                                      repeat (go_quiet (fail); try go_wp2)
                                                      go_ret
                                                      exact ⟨by first | rfl | (simp [errW_none, errW_some] <;> rfl) | (exfalso; simp_all; done) | (simp [*, errW_none, errW_some] <;> rfl), by repeat (first | (with_reducible first | exact HB.out | apply below_alloc | apply pw_below_drewN | apply below_drew1) | exact HB.out)⟩
                                                    · rw [if_neg c33] at H
                                                      have c33b0 : decide ((rd t180 x11_3) < (rd t180 x13_6)) = false := decide_eq_false c33
                                                      clear c33
                                                      by_cases c34 : (rd l1 x11_3) = (rd l1 x13_6)
                                                      · rw [if_pos c34] at H
                                                        have c34b0 : ((rd l1 x11_3) == (rd l1 x13_6)) = true := beq_iff_eq.mpr c34
                                                        have c34b1 : ((rd l1 x11_3) != (rd l1 x13_6)) = false := bne_eq_false_iff_eq.mpr c34
                                                        clear c34
                                                        by_cases c35 : x11_3 < x13_6
                                                        · rw [if_pos c35] at H
                                                          have c35b0 : decide (x11_3 < x13_6) = true := decide_eq_true c35
                                                          clear c35
                                                          have H' := Aside0.mk H
                                                          clear H
                                                          have p192 : 0 ≤ (x11_3 : Int) := of_decide_eq_true (by first | (with_reducible assumption) | assumption)
                                                          have q192 : x11_3 < (l1.length : Int) := of_decide_eq_true (by first | (with_reducible assumption) | assumption)
                                                          obtain ⟨ad192, e192, hx192_0⟩ := Kd.at_int HR1.out x11_3 p192 q192
                                                          cases e192
                                                          replace hx192_0 := (HB.out.cell (World.block_lt_of_cell? w _ hx192_0)).trans hx192_0
                                                          replace p192 := eq_true p192
                                                          replace q192 := eq_true q192
                                                          have p193 : 0 ≤ (x13_6 : Int) := of_decide_eq_true (by first | (with_reducible assumption) | assumption)
                                                          have q193 : x13_6 < (l1.length : Int) := of_decide_eq_true (by first | (with_reducible assumption) | assumption)
                                                          obtain ⟨ad193, e193, hx193_0⟩ := Kd.at_int HR1.out x13_6 p193 q193
                                                          obtain rfl : ad192 = ad193 := (by injection e193)
                                                          replace hx193_0 := (HB.out.cell (World.block_lt_of_cell? w _ hx193_0)).trans hx193_0
                                                          replace p193 := eq_true p193
                                                          replace q193 := eq_true q193
                                                          have p194 : 0 ≤ (x11_3 : Int) := of_decide_eq_true (by first | (with_reducible assumption) | assumption)
                                                          have q194 : x11_3 < (t180.length : Int) := of_decide_eq_true (by first | (with_reducible assumption) | assumption)
                                                          obtain ⟨ad194, e194, hx194_0⟩ := Kd.at_int (Kd.R_reads' HO_6.out).2.2 x11_3 p194 q194
                                                          obtain rfl : ad186 = ad194 := (by injection e194)
                                                          replace p194 := eq_true p194
                                                          replace q194 := eq_true q194
                                                          have p195 : 0 ≤ (x13_6 : Int) := of_decide_eq_true (by first | (with_reducible assumption) | assumption)
                                                          have q195 : x13_6 < (t180.length : Int) := of_decide_eq_true (by first | (with_reducible assumption) | assumption)
                                                          obtain ⟨ad195, e195, hx195_0⟩ := Kd.at_int (Kd.R_reads' HO_6.out).2.2 x13_6 p195 q195
                                                          obtain rfl : ad186 = ad195 := (by injection e195)
                                                          replace p195 := eq_true p195
                                                          replace q195 := eq_true q195
                                                          have p196 : 0 ≤ (x11_3 : Int) := of_decide_eq_true (by first | (with_reducible assumption) | assumption)
                                                          have q196 : x11_3 < (l1.length : Int) := of_decide_eq_true (by first | (with_reducible assumption) | assumption)
                                                          obtain ⟨ad196, e196, hx196_0⟩ := Kd.at_int HR1.out x11_3 p196 q196
                                                          obtain rfl : ad192 = ad196 := (by injection e196)
                                                          replace hx196_0 := (HB.out.cell (World.block_lt_of_cell? w _ hx196_0)).trans hx196_0
                                                          replace p196 := eq_true p196
                                                          replace q196 := eq_true q196
                                                          have p197 : 0 ≤ (x13_6 : Int) := of_decide_eq_true (by first | (with_reducible assumption) | assumption)
                                                          have q197 : x13_6 < (l1.length : Int) := of_decide_eq_true (by first | (with_reducible assumption) | assumption)
                                                          obtain ⟨ad197, e197, hx197_0⟩ := Kd.at_int HR1.out x13_6 p197 q197
                                                          obtain rfl : ad192 = ad197 := (by injection e197)
                                                          replace hx197_0 := (HB.out.cell (World.block_lt_of_cell? w _ hx197_0)).trans hx197_0
                                                          replace p197 := eq_true p197
                                                          replace q197 := eq_true q197
                                                          have p198 : 0 ≤ (x11_3 : Int) := of_decide_eq_true (by first | (with_reducible assumption) | assumption)
                                                          have q198 : x11_3 < (t180.length : Int) := of_decide_eq_true (by first | (with_reducible assumption) | assumption)
                                                          obtain ⟨ad198, e198, hx198_0⟩ := Kd.at_int (Kd.R_reads' HO_6.out).2.2 x11_3 p198 q198
                                                          obtain rfl : ad186 = ad198 := (by injection e198)
                                                          replace p198 := eq_true p198
                                                          replace q198 := eq_true q198
                                                          have p199 : 0 ≤ (x13_6 : Int) := of_decide_eq_true (by first | (with_reducible assumption) | assumption)
                                                          have q199 : x13_6 < (t180.length : Int) := of_decide_eq_true (by first | (with_reducible assumption) | assumption)
                                                          obtain ⟨ad199, e199, hx199_0⟩ := Kd.at_int (Kd.R_reads' HO_6.out).2.2 x13_6 p199 q199
                                                          obtain rfl : ad186 = ad199 := (by injection e199)
                                                          replace p199 := eq_true p199
                                                          replace q199 := eq_true q199
                                                          go_wp2
                                                          repeat (go_quiet (fail); try go_wp2)
                                                          go_roundg k6
                                                          case measure => have := HJ5.out; have := HK2.out; have := HK3.out; have := HJ15.out; have := HJ20.out; have := HK6.out; omega
                                                          case rel => exact ⟨(wrap64 (x13_6 + 1)), (by first | rfl | (simp; done) | (simp [*]; done) | (simp [wrap64]; done) | (simp [wrap64]; omega)), H', ⟨by have := HJ5.out; have := HK2.out; have := HK3.out; have := HJ15.out; have := HJ20.out; have := HK6.out; omega⟩, ⟨by (with_reducible repeat (first | apply Kd.R_alloc | apply Kd.R_drewN | apply Kd.R_drew)); exact HO_6.out⟩, ⟨by repeat (first | (with_reducible first | exact HB.out | apply below_alloc | apply pw_below_drewN | apply below_drew1) | exact HB.out)⟩⟩
                                                        · rw [if_neg c35] at H
                                                          have c35b0 : decide (x11_3 < x13_6) = false := decide_eq_false c35
                                                          clear c35
                                                          have H' := Aside0.mk H
                                                          clear H
                                                          have p192 : 0 ≤ (x11_3 : Int) := of_decide_eq_true (by first | (with_reducible assumption) | assumption)
                                                          have q192 : x11_3 < (l1.length : Int) := of_decide_eq_true (by first | (with_reducible assumption) | assumption)
                                                          obtain ⟨ad192, e192, hx192_0⟩ := Kd.at_int HR1.out x11_3 p192 q192
                                                          cases e192
                                                          replace hx192_0 := (HB.out.cell (World.block_lt_of_cell? w _ hx192_0)).trans hx192_0
                                                          replace p192 := eq_true p192
                                                          replace q192 := eq_true q192
                                                          have p193 : 0 ≤ (x13_6 : Int) := of_decide_eq_true (by first | (with_reducible assumption) | assumption)
                                                          have q193 : x13_6 < (l1.length : Int) := of_decide_eq_true (by first | (with_reducible assumption) | assumption)
                                                          obtain ⟨ad193, e193, hx193_0⟩ := Kd.at_int HR1.out x13_6 p193 q193
                                                          obtain rfl : ad192 = ad193 := (by injection e193)
                                                          replace hx193_0 := (HB.out.cell (World.block_lt_of_cell? w _ hx193_0)).trans hx193_0
                                                          replace p193 := eq_true p193
                                                          replace q193 := eq_true q193
                                                          have p194 : 0 ≤ (x11_3 : Int) := of_decide_eq_true (by first | (with_reducible assumption) | assumption)
                                                          have q194 : x11_3 < (t180.length : Int) := of_decide_eq_true (by first | (with_reducible assumption) | assumption)
                                                          obtain ⟨ad194, e194, hx194_0⟩ := Kd.at_int (Kd.R_reads' HO_6.out).2.2 x11_3 p194 q194
                                                          obtain rfl : ad186 = ad194 := (by injection e194)
                                                          replace p194 := eq_true p194
                                                          replace q194 := eq_true q194
                                                          have p195 : 0 ≤ (x13_6 : Int) := of_decide_eq_true (by first | (with_reducible assumption) | assumption)
                                                          have q195 : x13_6 < (t180.length : Int) := of_decide_eq_true (by first | (with_reducible assumption) | assumption)
                                                          obtain ⟨ad195, e195, hx195_0⟩ := Kd.at_int (Kd.R_reads' HO_6.out).2.2 x13_6 p195 q195
                                                          obtain rfl : ad186 = ad195 := (by injection e195)
                                                          replace p195 := eq_true p195
                                                          replace q195 := eq_true q195
                                                          have p196 : 0 ≤ (x11_3 : Int) := of_decide_eq_true (by first | (with_reducible assumption) | assumption)
                                                          have q196 : x11_3 < (l1.length : Int) := of_decide_eq_true (by first | (with_reducible assumption) | assumption)
                                                          obtain ⟨ad196, e196, hx196_0⟩ := Kd.at_int HR1.out x11_3 p196 q196
                                                          obtain rfl : ad192 = ad196 := (by injection e196)
                                                          replace hx196_0 := (HB.out.cell (World.block_lt_of_cell? w _ hx196_0)).trans hx196_0
                                                          replace p196 := eq_true p196
                                                          replace q196 := eq_true q196
                                                          have p197 : 0 ≤ (x13_6 : Int) := of_decide_eq_true (by first | (with_reducible assumption) | assumption)
                                                          have q197 : x13_6 < (l1.length : Int) := of_decide_eq_true (by first | (with_reducible assumption) | assumption)
                                                          obtain ⟨ad197, e197, hx197_0⟩ := Kd.at_int HR1.out x13_6 p197 q197
                                                          obtain rfl : ad192 = ad197 := (by injection e197)
                                                          replace hx197_0 := (HB.out.cell (World.block_lt_of_cell? w _ hx197_0)).trans hx197_0
                                                          replace p197 := eq_true p197
                                                          replace q197 := eq_true q197
                                                          go_wp2
                                                          repeat (go_quiet (fail); try go_wp2)
                                                          go_roundg k6
                                                          case measure => have := HJ5.out; have := HK2.out; have := HK3.out; have := HJ15.out; have := HJ20.out; have := HK6.out; omega
                                                          case rel => exact ⟨(wrap64 (x13_6 + 1)), (by first | rfl | (simp; done) | (simp [*]; done) | (simp [wrap64]; done) | (simp [wrap64]; omega)), H', ⟨by have := HJ5.out; have := HK2.out; have := HK3.out; have := HJ15.out; have := HJ20.out; have := HK6.out; omega⟩, ⟨by (with_reducible repeat (first | apply Kd.R_alloc | apply Kd.R_drewN | apply Kd.R_drew)); exact HO_6.out⟩, ⟨by repeat (first | (with_reducible first | exact HB.out | apply below_alloc | apply pw_below_drewN | apply below_drew1) | exact HB.out)⟩⟩
                                                      · rw [if_neg c34] at H
                                                        have c34b0 : ((rd l1 x11_3) == (rd l1 x13_6)) = false := beq_eq_false_iff_ne.mpr c34
                                                        have c34b1 : ((rd l1 x11_3) != (rd l1 x13_6)) = true := bne_iff_ne.mpr c34
                                                        have H' := Aside0.mk H
                                                        clear H
                                                        have p192 : 0 ≤ (x11_3 : Int) := of_decide_eq_true (by first | (with_reducible assumption) | assumption)
                                                        have q192 : x11_3 < (l1.length : Int) := of_decide_eq_true (by first | (with_reducible assumption) | assumption)
                                                        obtain ⟨ad192, e192, hx192_0⟩ := Kd.at_int HR1.out x11_3 p192 q192
                                                        cases e192
                                                        replace hx192_0 := (HB.out.cell (World.block_lt_of_cell? w _ hx192_0)).trans hx192_0
                                                        replace p192 := eq_true p192
                                                        replace q192 := eq_true q192
                                                        have p193 : 0 ≤ (x13_6 : Int) := of_decide_eq_true (by first | (with_reducible assumption) | assumption)
                                                        have q193 : x13_6 < (l1.length : Int) := of_decide_eq_true (by first | (with_reducible assumption) | assumption)
                                                        obtain ⟨ad193, e193, hx193_0⟩ := Kd.at_int HR1.out x13_6 p193 q193
                                                        obtain rfl : ad192 = ad193 := (by injection e193)
                                                        replace hx193_0 := (HB.out.cell (World.block_lt_of_cell? w _ hx193_0)).trans hx193_0
                                                        replace p193 := eq_true p193
                                                        replace q193 := eq_true q193
                                                        have p194 : 0 ≤ (x11_3 : Int) := of_decide_eq_true (by first | (with_reducible assumption) | assumption)
                                                        have q194 : x11_3 < (t180.length : Int) := of_decide_eq_true (by first | (with_reducible assumption) | assumption)
                                                        obtain ⟨ad194, e194, hx194_0⟩ := Kd.at_int (Kd.R_reads' HO_6.out).2.2 x11_3 p194 q194
                                                        obtain rfl : ad186 = ad194 := (by injection e194)
                                                        replace p194 := eq_true p194
                                                        replace q194 := eq_true q194
                                                        have p195 : 0 ≤ (x13_6 : Int) := of_decide_eq_true (by first | (with_reducible assumption) | assumption)
                                                        have q195 : x13_6 < (t180.length : Int) := of_decide_eq_true (by first | (with_reducible assumption) | assumption)
                                                        obtain ⟨ad195, e195, hx195_0⟩ := Kd.at_int (Kd.R_reads' HO_6.out).2.2 x13_6 p195 q195
                                                        obtain rfl : ad186 = ad195 := (by injection e195)
                                                        replace p195 := eq_true p195
                                                        replace q195 := eq_true q195
                                                        have p196 : 0 ≤ (x11_3 : Int) := of_decide_eq_true (by first | (with_reducible assumption) | assumption)
                                                        have q196 : x11_3 < (l1.length : Int) := of_decide_eq_true (by first | (with_reducible assumption) | assumption)
                                                        obtain ⟨ad196, e196, hx196_0⟩ := Kd.at_int HR1.out x11_3 p196 q196
                                                        obtain rfl : ad192 = ad196 := (by injection e196)
                                                        replace hx196_0 := (HB.out.cell (World.block_lt_of_cell? w _ hx196_0)).trans hx196_0
                                                        replace p196 := eq_true p196
                                                        replace q196 := eq_true q196
                                                        have p197 : 0 ≤ (x13_6 : Int) := of_decide_eq_true (by first | (with_reducible assumption) | assumption)
                                                        have q197 : x13_6 < (l1.length : Int) := of_decide_eq_true (by first | (with_reducible assumption) | assumption)
                                                        obtain ⟨ad197, e197, hx197_0⟩ := Kd.at_int HR1.out x13_6 p197 q197
                                                        obtain rfl : ad192 = ad197 := (by injection e197)
                                                        replace hx197_0 := (HB.out.cell (World.block_lt_of_cell? w _ hx197_0)).trans hx197_0
                                                        replace p197 := eq_true p197
                                                        replace q197 := eq_true q197
                                                        go_wp2
                                                        repeat (go_quiet (fail); try go_wp2)
                                                        go_roundg k6
                                                        case measure => have := HJ5.out; have := HK2.out; have := HK3.out; have := HJ15.out; have := HJ20.out; have := HK6.out; omega
                                                        case rel => exact ⟨(wrap64 (x13_6 + 1)), (by first | rfl | (simp; done) | (simp [*]; done) | (simp [wrap64]; done) | (simp [wrap64]; omega)), H', ⟨by have := HJ5.out; have := HK2.out; have := HK3.out; have := HJ15.out; have := HJ20.out; have := HK6.out; omega⟩, ⟨by (with_reducible repeat (first | apply Kd.R_alloc | apply Kd.R_drewN | apply Kd.R_drew)); exact HO_6.out⟩, ⟨by repeat (first | (with_reducible first | exact HB.out | apply below_alloc | apply pw_below_drewN | apply below_drew1) | exact HB.out)⟩⟩
                                                  · rw [if_neg c32] at H
                                                    exact absurd H (by simp)
                                                · rw [if_neg c31] at H
                                                  have c31b0 : decide ((rd l1 x13_6) < (rd l1 x11_3)) = false := decide_eq_false c31
                                                  clear c31
                                                  by_cases c36 : (rd l1 x11_3) = (rd l1 x13_6)
                                                  · rw [if_pos c36] at H
                                                    have c36b0 : ((rd l1 x11_3) == (rd l1 x13_6)) = true := beq_iff_eq.mpr c36
                                                    have c36b1 : ((rd l1 x11_3) != (rd l1 x13_6)) = false := bne_eq_false_iff_eq.mpr c36
                                                    clear c36
                                                    by_cases c37 : x11_3 < x13_6
                                                    · rw [if_pos c37] at H
                                                      have c37b0 : decide (x11_3 < x13_6) = true := decide_eq_true c37
                                                      clear c37
                                                      by_cases c38 : x11_3 < (t180.length : Int)
                                                      · rw [if_pos c38] at H
                                                        have c38b0 : decide (x11_3 < (t180.length : Int)) = true := decide_eq_true c38
                                                        clear c38
                                                        by_cases c39 : (rd t180 x11_3) < (rd t180 x13_6)
                                                        · rw [if_pos c39] at H
                                                          have c39b0 : decide ((rd t180 x11_3) < (rd t180 x13_6)) = true := decide_eq_true c39
                                                          clear c39
                                                          obtain rfl := Option.some.inj H
                                                          have p192 : 0 ≤ (x11_3 : Int) := of_decide_eq_true (by first | (with_reducible assumption) | assumption)
                                                          have q192 : x11_3 < (l1.length : Int) := of_decide_eq_true (by first | (with_reducible assumption) | assumption)
                                                          obtain ⟨ad192, e192, hx192_0⟩ := Kd.at_int HR1.out x11_3 p192 q192
                                                          cases e192
                                                          replace hx192_0 := (HB.out.cell (World.block_lt_of_cell? w _ hx192_0)).trans hx192_0
                                                          replace p192 := eq_true p192
                                                          replace q192 := eq_true q192
                                                          have p193 : 0 ≤ (x13_6 : Int) := of_decide_eq_true (by first | (with_reducible assumption) | assumption)
                                                          have q193 : x13_6 < (l1.length : Int) := of_decide_eq_true (by first | (with_reducible assumption) | assumption)
                                                          obtain ⟨ad193, e193, hx193_0⟩ := Kd.at_int HR1.out x13_6 p193 q193
                                                          obtain rfl : ad192 = ad193 := (by injection e193)
                                                          replace hx193_0 := (HB.out.cell (World.block_lt_of_cell? w _ hx193_0)).trans hx193_0
                                                          replace p193 := eq_true p193
                                                          replace q193 := eq_true q193
                                                          have p200 : 0 ≤ (x11_3 : Int) := of_decide_eq_true (by first | (with_reducible assumption) | assumption)
                                                          have q200 : x11_3 < (l1.length : Int) := of_decide_eq_true (by first | (with_reducible assumption) | assumption)
                                                          obtain ⟨ad200, e200, hx200_0⟩ := Kd.at_int HR1.out x11_3 p200 q200
                                                          obtain rfl : ad192 = ad200 := (by injection e200)
                                                          replace hx200_0 := (HB.out.cell (World.block_lt_of_cell? w _ hx200_0)).trans hx200_0
                                                          replace p200 := eq_true p200
                                                          replace q200 := eq_true q200
                                                          have p201 : 0 ≤ (x13_6 : Int) := of_decide_eq_true (by first | (with_reducible assumption) | assumption)
                                                          have q201 : x13_6 < (l1.length : Int) := of_decide_eq_true (by first | (with_reducible assumption) | assumption)
                                                          obtain ⟨ad201, e201, hx201_0⟩ := Kd.at_int HR1.out x13_6 p201 q201
                                                          obtain rfl : ad192 = ad201 := (by injection e201)
                                                          replace hx201_0 := (HB.out.cell (World.block_lt_of_cell? w _ hx201_0)).trans hx201_0
                                                          replace p201 := eq_true p201
                                                          replace q201 := eq_true q201
                                                          have p202 : 0 ≤ (x11_3 : Int) := of_decide_eq_true (by first | (with_reducible assumption) | assumption)
                                                          have q202 : x11_3 < (t180.length : Int) := of_decide_eq_true (by first | (with_reducible assumption) | assumption)
                                                          obtain ⟨ad202, e202, hx202_0⟩ := Kd.at_int (Kd.R_reads' HO_6.out).2.2 x11_3 p202 q202
                                                          obtain rfl : ad186 = ad202 := (by injection e202)
                                                          replace p202 := eq_true p202
                                                          replace q202 := eq_true q202
                                                          have p203 : 0 ≤ (x13_6 : Int) := of_decide_eq_true (by first | (with_reducible assumption) | assumption)
                                                          have q203 : x13_6 < (t180.length : Int) := of_decide_eq_true (by first | (with_reducible assumption) | assumption)
                                                          obtain ⟨ad203, e203, hx203_0⟩ := Kd.at_int (Kd.R_reads' HO_6.out).2.2 x13_6 p203 q203
                                                          obtain rfl : ad186 = ad203 := (by injection e203)
                                                          replace p203 := eq_true p203
                                                          replace q203 := eq_true q203
                                                          go_wp2
                                                          repeat (go_quiet (fail); try go_wp2)
                                                          go_ret
                                                          exact ⟨by first | rfl | (simp [errW_none, errW_some] <;> rfl) | (exfalso; simp_all; done) | (simp [*, errW_none, errW_some] <;> rfl), by repeat (first | (with_reducible first | exact HB.out | apply below_alloc | apply pw_below_drewN | apply below_drew1) | exact HB.out)⟩
                                                        · rw [if_neg c39] at H
                                                          have c39b0 : decide ((rd t180 x11_3) < (rd t180 x13_6)) = false := decide_eq_false c39
                                                          clear c39
                                                          have H' := Aside0.mk H
                                                          clear H
                                                          have p192 : 0 ≤ (x11_3 : Int) := of_decide_eq_true (by first | (with_reducible assumption) | assumption)
                                                          have q192 : x11_3 < (l1.length : Int) := of_decide_eq_true (by first | (with_reducible assumption) | assumption)
                                                          obtain ⟨ad192, e192, hx192_0⟩ := Kd.at_int HR1.out x11_3 p192 q192
                                                          cases e192
                                                          replace hx192_0 := (HB.out.cell (World.block_lt_of_cell? w _ hx192_0)).trans hx192_0
                                                          replace p192 := eq_true p192
                                                          replace q192 := eq_true q192
                                                          have p193 : 0 ≤ (x13_6 : Int) := of_decide_eq_true (by first | (with_reducible assumption) | assumption)
                                                          have q193 : x13_6 < (l1.length : Int) := of_decide_eq_true (by first | (with_reducible assumption) | assumption)
                                                          obtain ⟨ad193, e193, hx193_0⟩ := Kd.at_int HR1.out x13_6 p193 q193
                                                          obtain rfl : ad192 = ad193 := (by injection e193)
                                                          replace hx193_0 := (HB.out.cell (World.block_lt_of_cell? w _ hx193_0)).trans hx193_0
                                                          replace p193 := eq_true p193
                                                          replace q193 := eq_true q193
                                                          have p200 : 0 ≤ (x11_3 : Int) := of_decide_eq_true (by first | (with_reducible assumption) | assumption)
                                                          have q200 : x11_3 < (l1.length : Int) := of_decide_eq_true (by first | (with_reducible assumption) | assumption)
                                                          obtain ⟨ad200, e200, hx200_0⟩ := Kd.at_int HR1.out x11_3 p200 q200
                                                          obtain rfl : ad192 = ad200 := (by injection e200)
                                                          replace hx200_0 := (HB.out.cell (World.block_lt_of_cell? w _ hx200_0)).trans hx200_0
                                                          replace p200 := eq_true p200
                                                          replace q200 := eq_true q200
                                                          have p201 : 0 ≤ (x13_6 : Int) := of_decide_eq_true (by first | (with_reducible assumption) | assumption)
                                                          have q201 : x13_6 < (l1.length : Int) := of_decide_eq_true (by first | (with_reducible assumption) | assumption)
                                                          obtain ⟨ad201, e201, hx201_0⟩ := Kd.at_int HR1.out x13_6 p201 q201
                                                          obtain rfl : ad192 = ad201 := (by injection e201)
                                                          replace hx201_0 := (HB.out.cell (World.block_lt_of_cell? w _ hx201_0)).trans hx201_0
                                                          replace p201 := eq_true p201
                                                          replace q201 := eq_true q201
                                                          have p202 : 0 ≤ (x11_3 : Int) := of_decide_eq_true (by first | (with_reducible assumption) | assumption)
                                                          have q202 : x11_3 < (t180.length : Int) := of_decide_eq_true (by first | (with_reducible assumption) | assumption)
                                                          obtain ⟨ad202, e202, hx202_0⟩ := Kd.at_int (Kd.R_reads' HO_6.out).2.2 x11_3 p202 q202
                                                          obtain rfl : ad186 = ad202 := (by injection e202)
                                                          replace p202 := eq_true p202
                                                          replace q202 := eq_true q202
                                                          have p203 : 0 ≤ (x13_6 : Int) := of_decide_eq_true (by first | (with_reducible assumption) | assumption)
                                                          have q203 : x13_6 < (t180.length : Int) := of_decide_eq_true (by first | (with_reducible assumption) | assumption)
                                                          obtain ⟨ad203, e203, hx203_0⟩ := Kd.at_int (Kd.R_reads' HO_6.out).2.2 x13_6 p203 q203
                                                          obtain rfl : ad186 = ad203 := (by injection e203)
                                                          replace p203 := eq_true p203
                                                          replace q203 := eq_true q203
                                                          go_wp2
                                                          repeat (go_quiet (fail); try go_wp2)
                                                          go_roundg k6
                                                          case measure => have := HJ5.out; have := HK2.out; have := HK3.out; have := HJ15.out; have := HJ20.out; have := HK6.out; omega
                                                          case rel => exact ⟨(wrap64 (x13_6 + 1)), (by first | rfl | (simp; done) | (simp [*]; done) | (simp [wrap64]; done) | (simp [wrap64]; omega)), H', ⟨by have := HJ5.out; have := HK2.out; have := HK3.out; have := HJ15.out; have := HJ20.out; have := HK6.out; omega⟩, ⟨by (with_reducible repeat (first | apply Kd.R_alloc | apply Kd.R_drewN | apply Kd.R_drew)); exact HO_6.out⟩, ⟨by repeat (first | (with_reducible first | exact HB.out | apply below_alloc | apply pw_below_drewN | apply below_drew1) | exact HB.out)⟩⟩
                                                      · rw [if_neg c38] at H
                                                        exact absurd H (by simp)
                                                    · rw [if_neg c37] at H
                                                      have c37b0 : decide (x11_3 < x13_6) = false := decide_eq_false c37
                                                      clear c37
                                                      have H' := Aside0.mk H
                                                      clear H
                                                      have p192 : 0 ≤ (x11_3 : Int) := of_decide_eq_true (by first | (with_reducible assumption) | assumption)
                                                      have q192 : x11_3 < (l1.length : Int) := of_decide_eq_true (by first | (with_reducible assumption) | assumption)
                                                      obtain ⟨ad192, e192, hx192_0⟩ := Kd.at_int HR1.out x11_3 p192 q192
                                                      cases e192
                                                      replace hx192_0 := (HB.out.cell (World.block_lt_of_cell? w _ hx192_0)).trans hx192_0
                                                      replace p192 := eq_true p192
                                                      replace q192 := eq_true q192
                                                      have p193 : 0 ≤ (x13_6 : Int) := of_decide_eq_true (by first | (with_reducible assumption) | assumption)
                                                      have q193 : x13_6 < (l1.length : Int) := of_decide_eq_true (by first | (with_reducible assumption) | assumption)
                                                      obtain ⟨ad193, e193, hx193_0⟩ := Kd.at_int HR1.out x13_6 p193 q193
                                                      obtain rfl : ad192 = ad193 := (by injection e193)
                                                      replace hx193_0 := (HB.out.cell (World.block_lt_of_cell? w _ hx193_0)).trans hx193_0
                                                      replace p193 := eq_true p193
                                                      replace q193 := eq_true q193
                                                      have p200 : 0 ≤ (x11_3 : Int) := of_decide_eq_true (by first | (with_reducible assumption) | assumption)
                                                      have q200 : x11_3 < (l1.length : Int) := of_decide_eq_true (by first | (with_reducible assumption) | assumption)
                                                      obtain ⟨ad200, e200, hx200_0⟩ := Kd.at_int HR1.out x11_3 p200 q200
                                                      obtain rfl : ad192 = ad200 := (by injection e200)
                                                      replace hx200_0 := (HB.out.cell (World.block_lt_of_cell? w _ hx200_0)).trans hx200_0
                                                      replace p200 := eq_true p200
                                                      replace q200 := eq_true q200
                                                      have p201 : 0 ≤ (x13_6 : Int) := of_decide_eq_true (by first | (with_reducible assumption) | assumption)
                                                      have q201 : x13_6 < (l1.length : Int) := of_decide_eq_true (by first | (with_reducible assumption) | assumption)
                                                      obtain ⟨ad201, e201, hx201_0⟩ := Kd.at_int HR1.out x13_6 p201 q201
                                                      obtain rfl : ad192 = ad201 := (by injection e201)
                                                      replace hx201_0 := (HB.out.cell (World.block_lt_of_cell? w _ hx201_0)).trans hx201_0
                                                      replace p201 := eq_true p201
                                                      replace q201 := eq_true q201
                                                      go_wp2
                                                      repeat (go_quiet (fail); try go_wp2)
                                                      go_roundg k6
                                                      case measure => have := HJ5.out; have := HK2.out; have := HK3.out; have := HJ15.out; have := HJ20.out; have := HK6.out; omega
                                                      case rel => exact ⟨(wrap64 (x13_6 + 1)), (by first | rfl | (simp; done) | (simp [*]; done) | (simp [wrap64]; done) | (simp [wrap64]; omega)), H', ⟨by have := HJ5.out; have := HK2.out; have := HK3.out; have := HJ15.out; have := HJ20.out; have := HK6.out; omega⟩, ⟨by (with_reducible repeat (first | apply Kd.R_alloc | apply Kd.R_drewN | apply Kd.R_drew)); exact HO_6.out⟩, ⟨by repeat (first | (with_reducible first | exact HB.out | apply below_alloc | apply pw_below_drewN | apply below_drew1) | exact HB.out)⟩⟩
                                                  · rw [if_neg c36] at H
                                                    have c36b0 : ((rd l1 x11_3) == (rd l1 x13_6)) = false := beq_eq_false_iff_ne.mpr c36
                                                    have c36b1 : ((rd l1 x11_3) != (rd l1 x13_6)) = true := bne_iff_ne.mpr c36
                                                    have H' := Aside0.mk H
                                                    clear H
                                                    have p192 : 0 ≤ (x11_3 : Int) := of_decide_eq_true (by first | (with_reducible assumption) | assumption)
                                                    have q192 : x11_3 < (l1.length : Int) := of_decide_eq_true (by first | (with_reducible assumption) | assumption)
                                                    obtain ⟨ad192, e192, hx192_0⟩ := Kd.at_int HR1.out x11_3 p192 q192
                                                    cases e192
                                                    replace hx192_0 := (HB.out.cell (World.block_lt_of_cell? w _ hx192_0)).trans hx192_0
                                                    replace p192 := eq_true p192
                                                    replace q192 := eq_true q192
                                                    have p193 : 0 ≤ (x13_6 : Int) := of_decide_eq_true (by first | (with_reducible assumption) | assumption)
                                                    have q193 : x13_6 < (l1.length : Int) := of_decide_eq_true (by first | (with_reducible assumption) | assumption)
                                                    obtain ⟨ad193, e193, hx193_0⟩ := Kd.at_int HR1.out x13_6 p193 q193
                                                    obtain rfl : ad192 = ad193 := (by injection e193)
                                                    replace hx193_0 := (HB.out.cell (World.block_lt_of_cell? w _ hx193_0)).trans hx193_0
                                                    replace p193 := eq_true p193
                                                    replace q193 := eq_true q193
                                                    have p200 : 0 ≤ (x11_3 : Int) := of_decide_eq_true (by first | (with_reducible assumption) | assumption)
                                                    have q200 : x11_3 < (l1.length : Int) := of_decide_eq_true (by first | (with_reducible assumption) | assumption)
                                                    obtain ⟨ad200, e200, hx200_0⟩ := Kd.at_int HR1.out x11_3 p200 q200
                                                    obtain rfl : ad192 = ad200 := (by injection e200)
                                                    replace hx200_0 := (HB.out.cell (World.block_lt_of_cell? w _ hx200_0)).trans hx200_0
                                                    replace p200 := eq_true p200
                                                    replace q200 := eq_true q200
                                                    have p201 : 0 ≤ (x13_6 : Int) := of_decide_eq_true (by first | (with_reducible assumption) | assumption)
                                                    have q201 : x13_6 < (l1.length : Int) := of_decide_eq_true (by first | (with_reducible assumption) | assumption)
                                                    obtain ⟨ad201, e201, hx201_0⟩ := Kd.at_int HR1.out x13_6 p201 q201
                                                    obtain rfl : ad192 = ad201 := (by injection e201)
                                                    replace hx201_0 := (HB.out.cell (World.block_lt_of_cell? w _ hx201_0)).trans hx201_0
                                                    replace p201 := eq_true p201
                                                    replace q201 := eq_true q201
                                                    go_wp2
                                                    repeat (go_quiet (fail); try go_wp2)
                                                    go_roundg k6
                                                    case measure => have := HJ5.out; have := HK2.out; have := HK3.out; have := HJ15.out; have := HJ20.out; have := HK6.out; omega
                                                    case rel => exact ⟨(wrap64 (x13_6 + 1)), (by first | rfl | (simp; done) | (simp [*]; done) | (simp [wrap64]; done) | (simp [wrap64]; omega)), H', ⟨by have := HJ5.out; have := HK2.out; have := HK3.out; have := HJ15.out; have := HJ20.out; have := HK6.out; omega⟩, ⟨by (with_reducible repeat (first | apply Kd.R_alloc | apply Kd.R_drewN | apply Kd.R_drew)); exact HO_6.out⟩, ⟨by repeat (first | (with_reducible first | exact HB.out | apply below_alloc | apply pw_below_drewN | apply below_drew1) | exact HB.out)⟩⟩
                                              · rw [if_neg c30] at H
                                                exact absurd H (by simp)
                                            · rw [if_neg c29] at H
                                              exact absurd H (by simp)
                                          · rw [if_neg c28] at H
                                            exact absurd H (by simp)
                                        · rw [if_neg c27] at H
                                          exact absurd H (by simp)
                                      · rw [if_neg c26] at H
                                        have c26b0 : decide (x13_6 < (t180.length : Int)) = false := decide_eq_false c26
                                        clear c26
                                        have H' := Aside0.mk H
                                        clear H
                                        go_wp2
                                        repeat (go_quiet (fail); try go_wp2)
                                        go_roundg k6
                                        case measure => have := HJ5.out; have := HK2.out; have := HK3.out; have := HJ15.out; have := HJ20.out; have := HK6.out; omega
                                        case rel => exact ⟨((wrap64 (x8_3 + (rd t180 x11_3)))), (wrap64 (x11_3 + 1)), (by first | rfl | (simp; done) | (simp [*]; done) | (simp [wrap64]; done) | (simp [wrap64]; omega)), (by first | rfl | (simp; done) | (simp [*]; done) | (simp [wrap64]; done) | (simp [wrap64]; omega)), H', ⟨by have := HJ5.out; have := HK2.out; have := HK3.out; have := HJ15.out; have := HJ20.out; have := HK6.out; omega⟩, ⟨by (with_reducible repeat (first | apply Kd.R_alloc | apply Kd.R_drewN | apply Kd.R_drew)); exact HO_6.out⟩, ⟨by repeat (first | (with_reducible first | exact HB.out | apply below_alloc | apply pw_below_drewN | apply below_drew1) | exact HB.out)⟩⟩
                      · rw [if_neg c15] at H
                        exact absurd H (by simp)
                    · rw [if_neg c14] at H
                      have c14b0 : decide (x11_3 < (t180.length : Int)) = false := decide_eq_false c14
                      clear c14
                      by_cases c40 : (t180.length : Int) = (l1.length : Int)
                      · rw [if_pos c40] at H
                        have c40b0 : ((t180.length : Int) == (l1.length : Int)) = true := beq_iff_eq.mpr c40
                        have c40b1 : ((t180.length : Int) != (l1.length : Int)) = false := bne_eq_false_iff_eq.mpr c40
                        have c40b2 : (t180.length == l1.length) = true := by first | simpa using c40 | (simp at c40 ⊢; omega)
                        clear c40
                        by_cases c41 : x8_3 = a0
                        · rw [if_pos c41] at H
                          have c41b0 : (x8_3 == a0) = true := beq_iff_eq.mpr c41
                          have c41b1 : (x8_3 != a0) = false := bne_eq_false_iff_eq.mpr c41
                          clear c41
                          obtain rfl := Option.some.inj H
                          obtain ⟨Ao42, co42, eo42⟩ := Kd.R_slice HO_6.out
                          subst eo42
                          go_wp2
                          repeat (go_quiet (fail); try go_wp2)
                          go_ret
                          exact ⟨by first | rfl | (simp [errW_none, errW_some] <;> rfl) | (exfalso; simp_all; done) | (simp [*, errW_none, errW_some] <;> rfl), by repeat (first | (with_reducible first | exact HB.out | apply below_alloc | apply pw_below_drewN | apply below_drew1) | exact HB.out)⟩
                        · rw [if_neg c41] at H
                          have c41b0 : (x8_3 == a0) = false := beq_eq_false_iff_ne.mpr c41
                          have c41b1 : (x8_3 != a0) = true := bne_iff_ne.mpr c41
                          by_cases c43 : (l1.length : Int) = 0
                          · rw [if_pos c43] at H
                            have c43b0 : ((l1.length : Int) == 0) = true := beq_iff_eq.mpr c43
                            have c43b1 : ((l1.length : Int) != 0) = false := bne_eq_false_iff_eq.mpr c43
                            clear c43
                            obtain rfl := Option.some.inj H
                            obtain ⟨Ao44, co44, eo44⟩ := Kd.R_slice HO_6.out
                            subst eo44
                            go_wp2
                            repeat (go_quiet (fail); try go_wp2)
                            go_ret
                            exact ⟨by first | rfl | (simp [errW_none, errW_some] <;> rfl) | (exfalso; simp_all; done) | (simp [*, errW_none, errW_some] <;> rfl), by repeat (first | (with_reducible first | exact HB.out | apply below_alloc | apply pw_below_drewN | apply below_drew1) | exact HB.out)⟩
                          · rw [if_neg c43] at H
                            have c43b0 : ((l1.length : Int) == 0) = false := beq_eq_false_iff_ne.mpr c43
                            have c43b1 : ((l1.length : Int) != 0) = true := bne_iff_ne.mpr c43
                            have c43b2 : ¬ (l1 = []) := fun h_ => c43 (by rw [h_]; rfl)
                            obtain rfl := Option.some.inj H
                            obtain ⟨Ao45, co45, eo45⟩ := Kd.R_slice HO_6.out
                            subst eo45
                            go_wp2
                            repeat (go_quiet (fail); try go_wp2)
                            go_ret
                            exact ⟨by first | rfl | (simp [errW_none, errW_some] <;> rfl) | (exfalso; simp_all; done) | (simp [*, errW_none, errW_some] <;> rfl), by repeat (first | (with_reducible first | exact HB.out | apply below_alloc | apply pw_below_drewN | apply below_drew1) | exact HB.out)⟩
                      · rw [if_neg c40] at H
                        have c40b0 : ((t180.length : Int) == (l1.length : Int)) = false := beq_eq_false_iff_ne.mpr c40
                        have c40b1 : ((t180.length : Int) != (l1.length : Int)) = true := bne_iff_ne.mpr c40
                        have c40b2 : (t180.length == l1.length) = false := by first | simpa using c40 | (simp at c40 ⊢; omega)
                        obtain rfl := Option.some.inj H
                        obtain ⟨Ao46, co46, eo46⟩ := Kd.R_slice HO_6.out
                        subst eo46
                        go_wp2
                        repeat (go_quiet (fail); try go_wp2)
                        go_ret
                        exact ⟨by first | rfl | (simp [errW_none, errW_some] <;> rfl) | (exfalso; simp_all; done) | (simp [*, errW_none, errW_some] <;> rfl), by repeat (first | (with_reducible first | exact HB.out | apply below_alloc | apply pw_below_drewN | apply below_drew1) | exact HB.out)⟩
  · replace c4 := Bool.eq_false_iff.mpr c4
    subst c4
    have H1 : (some false) = some r := by rw [if_neg (show ¬ (false = true) by decide)] at H; exact H
    clear H
    have H := H1
    clear H1
    obtain rfl := Option.some.inj H
    go_enter Tryd.func4, Tryd.ntmps4
    go_wp2_with (first | (go_at_call 7; (with_reducible refine (pledgelaw23_first.calls k  false _ ?side1 A3.out).mono ?_); (case side1 => exact GlobOK.below HG.out (by repeat (first | (with_reducible first | exact HB.out | apply below_alloc | apply pw_below_drewN | apply below_drew1) | exact HB.out))); rintro e w47 ⟨rfl, hb⟩; have n0_ := Aside0.mk (below_step (by repeat (first | (with_reducible first | exact HB.out | apply below_alloc | apply pw_below_drewN | apply below_drew1) | exact HB.out)) hb); clear HB; have HB := n0_; clear n0_; (try clear hb); (try clear hb2); (try clear hk); (try clear hi)))
    repeat (go_quiet (first | (go_at_call 7; (try simp only [i64_w, i32_w]); (with_reducible refine (pledgelaw23_first.calls k  false _ ?side1 A3.out).mono ?_); (case side1 => exact GlobOK.below HG.out (by repeat (first | (with_reducible first | exact HB.out | apply below_alloc | apply pw_below_drewN | apply below_drew1) | exact HB.out))); rintro e w47 ⟨rfl, hb⟩; have n0_ := Aside0.mk (below_step (by repeat (first | (with_reducible first | exact HB.out | apply below_alloc | apply pw_below_drewN | apply below_drew1) | exact HB.out)) hb); clear HB; have HB := n0_; clear n0_; (try clear hb); (try clear hb2); (try clear hk); (try clear hi))); try go_wp2_with (first | (go_at_call 7; (try simp only [i64_w, i32_w]); (with_reducible refine (pledgelaw23_first.calls k  false _ ?side1 A3.out).mono ?_); (case side1 => exact GlobOK.below HG.out (by repeat (first | (with_reducible first | exact HB.out | apply below_alloc | apply pw_below_drewN | apply below_drew1) | exact HB.out))); rintro e w47 ⟨rfl, hb⟩; have n0_ := Aside0.mk (below_step (by repeat (first | (with_reducible first | exact HB.out | apply below_alloc | apply pw_below_drewN | apply below_drew1) | exact HB.out)) hb); clear HB; have HB := n0_; clear n0_; (try clear hb); (try clear hb2); (try clear hk); (try clear hi))))
    go_ret
    exact ⟨by first | rfl | (simp [errW_none, errW_some] <;> rfl) | (exfalso; simp_all; done) | (simp [*, errW_none, errW_some] <;> rfl), by repeat (first | (with_reducible first | exact HB.out | apply below_alloc | apply pw_below_drewN | apply below_drew1) | exact HB.out)⟩

/-- The pure statement of pledgelaw23_ShareAll: numbers and lists alone. -/
def pledgelaw23_ShareAll.Pure : Prop := ∀ (a0 : Int) (l1 : List Int), Rng .i64 a0 → l1.length * 8 ≤ 140737488351232 → (l1.length ≤ maxLen ∧ ∀ x ∈ l1, Rng .i64 x) → ∃ k, pledgelaw23_ShareAll.f k a0 l1 = some true

end Go.Proofs.YtdmhmncplcokiaaDoor.EShareAll
