/- The functions that the law comes to, as plain functions, and for each a proof that the Go code comes to just these answers. Written by a program of this claim. Conditions: each theorem bears its own. -/
import Derived.Test.YtdmhmncplcokiaaDoorEShareScalesx0
import Derived.Test.YtdmhmncplcokiaaDoorEShareScalesx5
import Derived.Test.YtdmhmncplcokiaaDoorEShareScalesx6
namespace Go.Proofs.YtdmhmncplcokiaaDoor.EShareScales
open Go.RowKit Go.Proofs.YtdmhmncplcokiaaDoorW.PrintWords Go.Proofs.YtdmhmncplcokiaaDoorW.PrintLast Go.Proofs.YtdmhmncplcokiaaDoorW.PrintMore Go.Proofs.YtdmhmncplcokiaaDoorW.PrintOpen
attribute [local go_sem] max2_int min2_int max_two min_two max_three min_three max_four min_four   -- for this text's walks alone
set_option linter.unusedVariables false
set_option linter.unusedSimpArgs false

/-! ### pledgelaw23_ShareScales: function 5 -/
mutual
def pledgelaw23_ShareScales.j0 : Nat → Int → List Int → Int → Bool → Option (Bool)
  | 0, _, _, _, _ => none
  | k + 1, x0, x1, x2, x7 => if (x1.length : Int) > 20 then (pledgelaw23_ShareScales.j1 k (Int.tmod x0 1000000000000) x1 x2 x7 true) else (if (x1.length : Int) = 0 then (pledgelaw23_ShareScales.j1 k (Int.tmod x0 1000000000000) x1 x2 x7 true) else (pledgelaw23_ShareScales.j1 k (Int.tmod x0 1000000000000) x1 x2 x7 (!x7)))
def pledgelaw23_ShareScales.j1 : Nat → Int → List Int → Int → Bool → Bool → Option (Bool)
  | 0, _, _, _, _, _ => none
  | k + 1, x0, x1, x2, x7, x45 => if x45 = true then (some x7) else (pledgelaw23_ShareScales.l0 k x0 x1 x2 ([] : List Int) ([] : List Int) 0)
def pledgelaw23_ShareScales.l0 : Nat → Int → List Int → Int → List Int → List Int → Int → Option (Bool)
  | 0, _, _, _, _, _, _ => none
  | k + 1, x0, x1, x2, x8, x9, x10 => if x10 < (x1.length : Int) then (if 0 ≤ x10 then (if (Int.tmod (rd x1 x10) 1000000) < 0 then (if x8.length < 17592186044416 then (if x9.length < 17592186044416 then (pledgelaw23_ShareScales.l0 k x0 x1 x2 (x8 ++ [wrap64 ((wrap64 (-(Int.tmod (rd x1 x10) 1000000))) + 1)]) (x9 ++ [wrap64 ((wrap64 (2 * (wrap64 (-(Int.tmod (rd x1 x10) 1000000))))) + 2)]) (wrap64 (x10 + 1))) else (none)) else (none)) else (if x8.length < 17592186044416 then (if x9.length < 17592186044416 then (pledgelaw23_ShareScales.l0 k x0 x1 x2 (x8 ++ [wrap64 ((Int.tmod (rd x1 x10) 1000000) + 1)]) (x9 ++ [wrap64 ((wrap64 (2 * (Int.tmod (rd x1 x10) 1000000))) + 2)]) (wrap64 (x10 + 1))) else (none)) else (none))) else (none)) else ((share_Split.f x0 x8).bind fun bt182 => ((share_Split.f x0 x9).bind fun bt186 => ((share_Split.f x0 (([7] : List Int))).bind fun bt193 => ((pledgeworld_Number.f x2 32).bind fun t197 => (pledgelaw23_ShareScales.l1 k x0 (wrap64 (t197 + 1)) bt182.1 bt182.2 bt186.1 bt186.2 bt193.1 bt193.2 ([] : List Int) 0)))))
def pledgelaw23_ShareScales.l1 : Nat → Int → Int → List Int → Option Int → List Int → Option Int → List Int → Option Int → List Int → Int → Option (Bool)
  | 0, _, _, _, _, _, _, _, _, _, _ => none
  | k + 1, x0, x2, x12, x13, x14, x15, x16, x17, x18, x19 => if x19 < x2 then (if x18.length < 17592186044416 then (pledgelaw23_ShareScales.l1 k x0 x2 x12 x13 x14 x15 x16 x17 (x18 ++ [3]) (wrap64 (x19 + 1))) else (none)) else ((share_Split.f x0 x18).bind fun bt201 => (if x13.isNone = true then (if x15.isNone = true then (if x17.isNone = true then (if bt201.2.isNone = true then ((pledgeref_SameLongs.f k x12 x14).bind fun t209 => (if t209 = true then (if (x16.length : Int) = 1 then (if 0 < (x16.length : Int) then (pledgelaw23_ShareScales.j4 k x0 x2 bt201.1 ((rd x16 0) != x0)) else (none)) else (pledgelaw23_ShareScales.j4 k x0 x2 bt201.1 true)) else (pledgelaw23_ShareScales.j4 k x0 x2 bt201.1 true))) else (pledgelaw23_ShareScales.j4 k x0 x2 bt201.1 true)) else (pledgelaw23_ShareScales.j4 k x0 x2 bt201.1 true)) else (pledgelaw23_ShareScales.j4 k x0 x2 bt201.1 true)) else (pledgelaw23_ShareScales.j4 k x0 x2 bt201.1 true)))
def pledgelaw23_ShareScales.j4 : Nat → Int → Int → List Int → Bool → Option (Bool)
  | 0, _, _, _, _ => none
  | k + 1, x0, x2, x20, x139 => if x139 = true then (some false) else (pledgelaw23_ShareScales.l2 k x0 x2 x20 0)
def pledgelaw23_ShareScales.l2 : Nat → Int → Int → List Int → Int → Option (Bool)
  | 0, _, _, _, _ => none
  | k + 1, x0, x2, x20, x22 => if x22 < x2 then (if x2 = 0 then (none) else (if x22 < (Int.tmod x0 x2) then (if 0 ≤ x22 then (if x22 < (x20.length : Int) then (if (rd x20 x22) = (wrap64 ((wrap64 (Int.tdiv x0 x2)) + 1)) then (pledgelaw23_ShareScales.l2 k x0 x2 x20 (wrap64 (x22 + 1))) else (some false)) else (none)) else (none)) else (if 0 ≤ x22 then (if x22 < (x20.length : Int) then (if (rd x20 x22) = (wrap64 (Int.tdiv x0 x2)) then (pledgelaw23_ShareScales.l2 k x0 x2 x20 (wrap64 (x22 + 1))) else (some false)) else (none)) else (none)))) else (some true)
end
def pledgelaw23_ShareScales.f (k : Nat) (a0 : Int) (l1 : List Int) (a2 : Int) : Option (Bool) := (pledgelaw23_first.f k).bind fun t168 => (if t168 = true then (if a0 < 0 then (pledgelaw23_ShareScales.j0 k (wrap64 (-(wrap64 (a0 + 1)))) l1 a2 t168) else (pledgelaw23_ShareScales.j0 k a0 l1 a2 t168)) else (some false))
theorem pledgelaw23_ShareScales.mono_l : ∀ k, (∀ y0 y1 y2 y3, LeO (pledgelaw23_ShareScales.j0 k y0 y1 y2 y3) (pledgelaw23_ShareScales.j0 (k + 1) y0 y1 y2 y3)) ∧ (∀ y0 y1 y2 y3 y4, LeO (pledgelaw23_ShareScales.j1 k y0 y1 y2 y3 y4) (pledgelaw23_ShareScales.j1 (k + 1) y0 y1 y2 y3 y4)) ∧ (∀ y0 y1 y2 y3 y4 y5, LeO (pledgelaw23_ShareScales.l0 k y0 y1 y2 y3 y4 y5) (pledgelaw23_ShareScales.l0 (k + 1) y0 y1 y2 y3 y4 y5)) ∧ (∀ y0 y1 y2 y3 y4 y5 y6 y7 y8 y9, LeO (pledgelaw23_ShareScales.l1 k y0 y1 y2 y3 y4 y5 y6 y7 y8 y9) (pledgelaw23_ShareScales.l1 (k + 1) y0 y1 y2 y3 y4 y5 y6 y7 y8 y9)) ∧ (∀ y0 y1 y2 y3, LeO (pledgelaw23_ShareScales.j4 k y0 y1 y2 y3) (pledgelaw23_ShareScales.j4 (k + 1) y0 y1 y2 y3)) ∧ (∀ y0 y1 y2 y3, LeO (pledgelaw23_ShareScales.l2 k y0 y1 y2 y3) (pledgelaw23_ShareScales.l2 (k + 1) y0 y1 y2 y3))
  | 0 => ⟨fun _ _ _ _ r h => by simp [pledgelaw23_ShareScales.j0] at h, fun _ _ _ _ _ r h => by simp [pledgelaw23_ShareScales.j1] at h, fun _ _ _ _ _ _ r h => by simp [pledgelaw23_ShareScales.l0] at h, fun _ _ _ _ _ _ _ _ _ _ r h => by simp [pledgelaw23_ShareScales.l1] at h, fun _ _ _ _ r h => by simp [pledgelaw23_ShareScales.j4] at h, fun _ _ _ _ r h => by simp [pledgelaw23_ShareScales.l2] at h⟩
  | k + 1 => by
    obtain ⟨ih0, ih1, ih2, ih3, ih4, ih5⟩ := pledgelaw23_ShareScales.mono_l k
    refine ⟨?_, ?_, ?_, ?_, ?_, ?_⟩
    · intro y0 y1 y2 y3
      unfold pledgelaw23_ShareScales.j0
      repeat' first
      | (with_reducible exact ih0 _ _ _ _)
      | (with_reducible exact ih1 _ _ _ _ _)
      | (with_reducible exact ih2 _ _ _ _ _ _)
      | (with_reducible exact ih3 _ _ _ _ _ _ _ _ _ _)
      | (with_reducible exact ih4 _ _ _ _)
      | (with_reducible exact ih5 _ _ _ _)
      | (with_reducible exact pledgelaw23_first.mono _)
      | (with_reducible exact pledgeref_SameLongs.mono _ _ _)
      | (with_reducible exact LeO.refl _)
      | (with_reducible exact LeO.none _)
      | (with_reducible refine LeO.ite ?_ ?_)
      | (with_reducible refine LeO.bind ?_ (fun _ => ?_))
      | exact ih0 _ _ _ _
      | exact ih1 _ _ _ _ _
      | exact ih2 _ _ _ _ _ _
      | exact ih3 _ _ _ _ _ _ _ _ _ _
      | exact ih4 _ _ _ _
      | exact ih5 _ _ _ _
      | exact pledgelaw23_first.mono _
      | exact pledgeref_SameLongs.mono _ _ _
      | exact LeO.none _
      | refine LeO.ite ?_ ?_
      | refine LeO.bind ?_ (fun _ => ?_)
    · intro y0 y1 y2 y3 y4
      unfold pledgelaw23_ShareScales.j1
      repeat' first
      | (with_reducible exact ih0 _ _ _ _)
      | (with_reducible exact ih1 _ _ _ _ _)
      | (with_reducible exact ih2 _ _ _ _ _ _)
      | (with_reducible exact ih3 _ _ _ _ _ _ _ _ _ _)
      | (with_reducible exact ih4 _ _ _ _)
      | (with_reducible exact ih5 _ _ _ _)
      | (with_reducible exact pledgelaw23_first.mono _)
      | (with_reducible exact pledgeref_SameLongs.mono _ _ _)
      | (with_reducible exact LeO.refl _)
      | (with_reducible exact LeO.none _)
      | (with_reducible refine LeO.ite ?_ ?_)
      | (with_reducible refine LeO.bind ?_ (fun _ => ?_))
      | exact ih0 _ _ _ _
      | exact ih1 _ _ _ _ _
      | exact ih2 _ _ _ _ _ _
      | exact ih3 _ _ _ _ _ _ _ _ _ _
      | exact ih4 _ _ _ _
      | exact ih5 _ _ _ _
      | exact pledgelaw23_first.mono _
      | exact pledgeref_SameLongs.mono _ _ _
      | exact LeO.none _
      | refine LeO.ite ?_ ?_
      | refine LeO.bind ?_ (fun _ => ?_)
    · intro y0 y1 y2 y3 y4 y5
      unfold pledgelaw23_ShareScales.l0
      repeat' first
      | (with_reducible exact ih0 _ _ _ _)
      | (with_reducible exact ih1 _ _ _ _ _)
      | (with_reducible exact ih2 _ _ _ _ _ _)
      | (with_reducible exact ih3 _ _ _ _ _ _ _ _ _ _)
      | (with_reducible exact ih4 _ _ _ _)
      | (with_reducible exact ih5 _ _ _ _)
      | (with_reducible exact pledgelaw23_first.mono _)
      | (with_reducible exact pledgeref_SameLongs.mono _ _ _)
      | (with_reducible exact LeO.refl _)
      | (with_reducible exact LeO.none _)
      | (with_reducible refine LeO.ite ?_ ?_)
      | (with_reducible refine LeO.bind ?_ (fun _ => ?_))
      | exact ih0 _ _ _ _
      | exact ih1 _ _ _ _ _
      | exact ih2 _ _ _ _ _ _
      | exact ih3 _ _ _ _ _ _ _ _ _ _
      | exact ih4 _ _ _ _
      | exact ih5 _ _ _ _
      | exact pledgelaw23_first.mono _
      | exact pledgeref_SameLongs.mono _ _ _
      | exact LeO.none _
      | refine LeO.ite ?_ ?_
      | refine LeO.bind ?_ (fun _ => ?_)
    · intro y0 y1 y2 y3 y4 y5 y6 y7 y8 y9
      unfold pledgelaw23_ShareScales.l1
      repeat' first
      | (with_reducible exact ih0 _ _ _ _)
      | (with_reducible exact ih1 _ _ _ _ _)
      | (with_reducible exact ih2 _ _ _ _ _ _)
      | (with_reducible exact ih3 _ _ _ _ _ _ _ _ _ _)
      | (with_reducible exact ih4 _ _ _ _)
      | (with_reducible exact ih5 _ _ _ _)
      | (with_reducible exact pledgelaw23_first.mono _)
      | (with_reducible exact pledgeref_SameLongs.mono _ _ _)
      | (with_reducible exact LeO.refl _)
      | (with_reducible exact LeO.none _)
      | (with_reducible refine LeO.ite ?_ ?_)
      | (with_reducible refine LeO.bind ?_ (fun _ => ?_))
      | exact ih0 _ _ _ _
      | exact ih1 _ _ _ _ _
      | exact ih2 _ _ _ _ _ _
      | exact ih3 _ _ _ _ _ _ _ _ _ _
      | exact ih4 _ _ _ _
      | exact ih5 _ _ _ _
      | exact pledgelaw23_first.mono _
      | exact pledgeref_SameLongs.mono _ _ _
      | exact LeO.none _
      | refine LeO.ite ?_ ?_
      | refine LeO.bind ?_ (fun _ => ?_)
    · intro y0 y1 y2 y3
      unfold pledgelaw23_ShareScales.j4
      repeat' first
      | (with_reducible exact ih0 _ _ _ _)
      | (with_reducible exact ih1 _ _ _ _ _)
      | (with_reducible exact ih2 _ _ _ _ _ _)
      | (with_reducible exact ih3 _ _ _ _ _ _ _ _ _ _)
      | (with_reducible exact ih4 _ _ _ _)
      | (with_reducible exact ih5 _ _ _ _)
      | (with_reducible exact pledgelaw23_first.mono _)
      | (with_reducible exact pledgeref_SameLongs.mono _ _ _)
      | (with_reducible exact LeO.refl _)
      | (with_reducible exact LeO.none _)
      | (with_reducible refine LeO.ite ?_ ?_)
      | (with_reducible refine LeO.bind ?_ (fun _ => ?_))
      | exact ih0 _ _ _ _
      | exact ih1 _ _ _ _ _
      | exact ih2 _ _ _ _ _ _
      | exact ih3 _ _ _ _ _ _ _ _ _ _
      | exact ih4 _ _ _ _
      | exact ih5 _ _ _ _
      | exact pledgelaw23_first.mono _
      | exact pledgeref_SameLongs.mono _ _ _
      | exact LeO.none _
      | refine LeO.ite ?_ ?_
      | refine LeO.bind ?_ (fun _ => ?_)
    · intro y0 y1 y2 y3
      unfold pledgelaw23_ShareScales.l2
      repeat' first
      | (with_reducible exact ih0 _ _ _ _)
      | (with_reducible exact ih1 _ _ _ _ _)
      | (with_reducible exact ih2 _ _ _ _ _ _)
      | (with_reducible exact ih3 _ _ _ _ _ _ _ _ _ _)
      | (with_reducible exact ih4 _ _ _ _)
      | (with_reducible exact ih5 _ _ _ _)
      | (with_reducible exact pledgelaw23_first.mono _)
      | (with_reducible exact pledgeref_SameLongs.mono _ _ _)
      | (with_reducible exact LeO.refl _)
      | (with_reducible exact LeO.none _)
      | (with_reducible refine LeO.ite ?_ ?_)
      | (with_reducible refine LeO.bind ?_ (fun _ => ?_))
      | exact ih0 _ _ _ _
      | exact ih1 _ _ _ _ _
      | exact ih2 _ _ _ _ _ _
      | exact ih3 _ _ _ _ _ _ _ _ _ _
      | exact ih4 _ _ _ _
      | exact ih5 _ _ _ _
      | exact pledgelaw23_first.mono _
      | exact pledgeref_SameLongs.mono _ _ _
      | exact LeO.none _
      | refine LeO.ite ?_ ?_
      | refine LeO.bind ?_ (fun _ => ?_)
theorem pledgelaw23_ShareScales.mono : ∀ a0 a1 a2 k, LeO (pledgelaw23_ShareScales.f k a0 a1 a2) (pledgelaw23_ShareScales.f (k + 1) a0 a1 a2) := by
  intro a0 a1 a2 k
  obtain ⟨ih0, ih1, ih2, ih3, ih4, ih5⟩ := pledgelaw23_ShareScales.mono_l k
  unfold pledgelaw23_ShareScales.f
  repeat' first
      | (with_reducible exact ih0 _ _ _ _)
      | (with_reducible exact ih1 _ _ _ _ _)
      | (with_reducible exact ih2 _ _ _ _ _ _)
      | (with_reducible exact ih3 _ _ _ _ _ _ _ _ _ _)
      | (with_reducible exact ih4 _ _ _ _)
      | (with_reducible exact ih5 _ _ _ _)
      | (with_reducible exact pledgelaw23_first.mono _)
      | (with_reducible exact pledgeref_SameLongs.mono _ _ _)
      | (with_reducible exact LeO.refl _)
      | (with_reducible exact LeO.none _)
      | (with_reducible refine LeO.ite ?_ ?_)
      | (with_reducible refine LeO.bind ?_ (fun _ => ?_))
      | exact ih0 _ _ _ _
      | exact ih1 _ _ _ _ _
      | exact ih2 _ _ _ _ _ _
      | exact ih3 _ _ _ _ _ _ _ _ _ _
      | exact ih4 _ _ _ _
      | exact ih5 _ _ _ _
      | exact pledgelaw23_first.mono _
      | exact pledgeref_SameLongs.mono _ _ _
      | exact LeO.none _
      | refine LeO.ite ?_ ?_
      | refine LeO.bind ?_ (fun _ => ?_)
set_option maxHeartbeats 8000000 in
set_option maxRecDepth 100000 in
theorem pledgelaw23_ShareScales.calls [Inhabited (Int → Addr)] (k : Nat) (a0 : Int) (A1 : Option Addr) (c1 : Nat) (l1 : List Int) (a2 : Int) (r : Bool) (w : World) (hG : GlobOK w) (hr1 : Kd.C (Kd.int .i64) w A1 l1.length l1) (hc1 : l1.length ≤ c1) (h : pledgelaw23_ShareScales.f k a0 l1 a2 = some r) :
    Calls Tryd.prog 5 #[.int .i64 a0, .slice A1 l1.length c1, .int .i64 a2] w fun e w' => e = .returned (.bool r) ∧ Below w.heap.size w w' := by
  have hu25 := Tryd.underlying25
  have hu93 := Tryd.underlying93
  have HG := Aside0.mk hG
  clear hG
  have HR1 := Aside0.mk hr1
  have HC1 := Aside0.mk hc1
  clear hr1 hc1
  have HB := Aside0.mk (Below.refl w.heap.size w)
  have H : ((pledgelaw23_first.f k).bind fun t168 => (if t168 = true then (if a0 < 0 then (pledgelaw23_ShareScales.j0 k (wrap64 (-(wrap64 (a0 + 1)))) l1 a2 t168) else (pledgelaw23_ShareScales.j0 k a0 l1 a2 t168)) else (some false))) = some r := h
  clear h
  replace H := Option.bind_eq_some_iff.mp H
  obtain ⟨t168, A40, H⟩ := H
  replace H : (if t168 = true then (if a0 < 0 then (pledgelaw23_ShareScales.j0 k (wrap64 (-(wrap64 (a0 + 1)))) l1 a2 t168) else (pledgelaw23_ShareScales.j0 k a0 l1 a2 t168)) else (some false)) = some r := H
  have A4 := Aside0.mk A40
  clear A40
  by_cases c5 : t168 = true
  · subst c5
    have H1 : (if a0 < 0 then (pledgelaw23_ShareScales.j0 k (wrap64 (-(wrap64 (a0 + 1)))) l1 a2 true) else (pledgelaw23_ShareScales.j0 k a0 l1 a2 true)) = some r := by rw [if_pos rfl] at H; exact H
    clear H
    have H := H1
    clear H1
    have HC6 := Aside0.mk H
    clear H
    go_enter Tryd.func5, Tryd.ntmps5
    go_upto_if 28 with (first | ((with_reducible refine gate_callee (f := 7) rfl ?_); refine goesL_ (some 24) rfl rfl Tryd.func7 (by kernel_rfl) rfl #[] rfl (by (try simp only [List.map_toArray, List.map_cons, List.map_nil]); first | done | rfl | (simp only [List.length_drop, List.length_take]; rfl)) ?_; (with_reducible refine (pledgelaw23_first.calls k  true _ ?side1 A4.out).mono ?_); (case side1 => exact GlobOK.below HG.out (by repeat (first | (with_reducible first | exact HB.out | apply below_alloc | apply pw_below_drewN | apply below_drew1) | exact HB.out))); rintro e w7 ⟨rfl, hb⟩; refine ⟨_, rfl, ?_⟩; have n0_ := Aside0.mk (below_step (by repeat (first | (with_reducible first | exact HB.out | apply below_alloc | apply pw_below_drewN | apply below_drew1) | exact HB.out)) hb); clear HB; have HB := n0_; clear n0_; (try clear hb); (try clear hb2); (try clear hk); (try clear hi)))
    (try simp only [Act.put, List.setIfInBounds_toArray, List.set_cons_zero, List.set_cons_succ])
    go_cut [0] (fun v0 wc => ∃ (kq : Nat) (x0_5 : Int), v0 = .int .i64 x0_5 ∧ Aside0 (pledgelaw23_ShareScales.j0 kq x0_5 l1 a2 true = some r) ∧ Aside0 (kq ≤ k) ∧ Aside0 (Below w.heap.size w wc))
    case first =>
      have H := HC6.out
      clear HC6
      by_cases c8 : a0 < 0
      · rw [if_pos c8] at H
        have c8b0 : decide (a0 < 0) = true := decide_eq_true c8
        clear c8
        (first | rw [c8b0] | (simp only [i64_w, i32_w]; rw [c8b0]) | skip)
        have H' := Aside0.mk H
        clear H
        go_wp2
        go_meet
        case rel => exact ⟨_, (wrap64 (-(wrap64 (a0 + 1)))), (by first | rfl | (simp; done) | (simp [*]; done) | (simp [wrap64]; done) | (simp [wrap64]; omega)), H', ⟨by first | omega | exact Nat.le_refl _⟩, ⟨by repeat (first | (with_reducible first | exact HB.out | apply below_alloc | apply pw_below_drewN | apply below_drew1) | exact HB.out)⟩⟩
      · rw [if_neg c8] at H
        have c8b0 : decide (a0 < 0) = false := decide_eq_false c8
        clear c8
        (first | rw [c8b0] | (simp only [i64_w, i32_w]; rw [c8b0]) | skip)
        have H' := Aside0.mk H
        clear H
        go_wp2
        go_meet
        case rel => exact ⟨_, (a0), (by first | rfl | (simp; done) | (simp [*]; done) | (simp [wrap64]; done) | (simp [wrap64]; omega)), H', ⟨by first | omega | exact Nat.le_refl _⟩, ⟨by repeat (first | (with_reducible first | exact HB.out | apply below_alloc | apply pw_below_drewN | apply below_drew1) | exact HB.out)⟩⟩
    case rest =>
      clear HC6
      try clear c1
      try clear p2
      try clear c5
      try clear p6
      try clear c7
      try clear c8
      try clear c8b0
      obtain ⟨kq, x0_5, rfl, HA, HJ5, HB⟩ := hcut
      cases kq with
      | zero => exact absurd HA.out (by simp [pledgelaw23_ShareScales.j0])
      | succ kj5 =>
        have H := HA.out
        clear HA
        simp only [pledgelaw23_ShareScales.j0] at H
        have HC9 := Aside0.mk H
        clear H
        go_upto_region 7 with (fail)
        go_cut [45] (fun v45 wc => ∃ (kq : Nat) (x45_8 : Bool), v45 = .bool x45_8 ∧ Aside0 (pledgelaw23_ShareScales.j1 kq (Int.tmod x0_5 1000000000000) l1 a2 true x45_8 = some r) ∧ Aside0 (kq ≤ kj5) ∧ Aside0 (Below w.heap.size w wc))
        case first =>
          have H := HC9.out
          clear HC9
          by_cases c10 : (l1.length : Int) > 20
          · rw [if_pos c10] at H
            have c10b0 : decide (20 < (l1.length : Int)) = true := decide_eq_true c10
            have c10b1 : decide (20 < l1.length) = true := decide_eq_true (by omega)
            clear c10
            (first | rw [c10b0] | (simp only [i64_w, i32_w]; rw [c10b0]) | skip)
            have H' := Aside0.mk H
            clear H
            go_wp2
            go_meet
            case rel => exact ⟨_, (true), (by first | rfl | (simp; done) | (simp [*]; done) | (simp [wrap64]; done) | (simp [wrap64]; omega)), H', ⟨by have := HJ5.out; first | omega | exact Nat.le_refl _⟩, ⟨by repeat (first | (with_reducible first | exact HB.out | apply below_alloc | apply pw_below_drewN | apply below_drew1) | exact HB.out)⟩⟩
          · rw [if_neg c10] at H
            have c10b0 : decide (20 < (l1.length : Int)) = false := decide_eq_false c10
            have c10b1 : decide (20 < l1.length) = false := decide_eq_false (by omega)
            clear c10
            (first | rw [c10b0] | (simp only [i64_w, i32_w]; rw [c10b0]) | skip)
            by_cases c11 : (l1.length : Int) = 0
            · rw [if_pos c11] at H
              have c11b0 : ((l1.length : Int) == 0) = true := beq_iff_eq.mpr c11
              have c11b1 : ((l1.length : Int) != 0) = false := bne_eq_false_iff_eq.mpr c11
              clear c11
              have H' := Aside0.mk H
              clear H
              go_wp2
              go_meet
              case rel => exact ⟨_, (true), (by first | rfl | (simp; done) | (simp [*]; done) | (simp [wrap64]; done) | (simp [wrap64]; omega)), H', ⟨by have := HJ5.out; first | omega | exact Nat.le_refl _⟩, ⟨by repeat (first | (with_reducible first | exact HB.out | apply below_alloc | apply pw_below_drewN | apply below_drew1) | exact HB.out)⟩⟩
            · rw [if_neg c11] at H
              have c11b0 : ((l1.length : Int) == 0) = false := beq_eq_false_iff_ne.mpr c11
              have c11b1 : ((l1.length : Int) != 0) = true := bne_iff_ne.mpr c11
              have c11b2 : ¬ (l1 = []) := fun h_ => c11 (by rw [h_]; rfl)
              have H' := Aside0.mk H
              clear H
              go_wp2
              go_meet
              case rel => exact ⟨_, (!true), (by first | rfl | (simp; done) | (simp [*]; done) | (simp [wrap64]; done) | (simp [wrap64]; omega)), H', ⟨by have := HJ5.out; first | omega | exact Nat.le_refl _⟩, ⟨by repeat (first | (with_reducible first | exact HB.out | apply below_alloc | apply pw_below_drewN | apply below_drew1) | exact HB.out)⟩⟩
        case rest =>
          clear HC9
          try clear c1
          try clear p2
          try clear c5
          try clear p6
          try clear c7
          try clear c8
          try clear c8b0
          try clear c10
          try clear c10b0
          try clear c10b1
          try clear c11
          try clear c11b0
          try clear c11b1
          try clear c11b2
          try clear p2
          try clear p6
          obtain ⟨kq, x45_8, rfl, HA, HJ8, HB⟩ := hcut
          cases kq with
          | zero => exact absurd HA.out (by simp [pledgelaw23_ShareScales.j1])
          | succ kj8 =>
            have H := HA.out
            clear HA
            simp only [pledgelaw23_ShareScales.j1] at H
            by_cases c12 : x45_8 = true
            · subst c12
              have H1 : (some true) = some r := by rw [if_pos rfl] at H; exact H
              clear H
              have H := H1
              clear H1
              obtain rfl := Option.some.inj H
              go_wp2
              go_ret
              exact ⟨by first | rfl | (simp [errW_none, errW_some] <;> rfl) | (exfalso; simp_all; done) | (simp [*, errW_none, errW_some] <;> rfl), by repeat (first | (with_reducible first | exact HB.out | apply below_alloc | apply pw_below_drewN | apply below_drew1) | exact HB.out)⟩
            · replace c12 := Bool.eq_false_iff.mpr c12
              subst c12
              have H1 : (pledgelaw23_ShareScales.l0 kj8 (Int.tmod x0_5 1000000000000) l1 a2 ([] : List Int) ([] : List Int) 0) = some r := by rw [if_neg (show ¬ (false = true) by decide)] at H; exact H
              clear H
              have H := H1
              clear H1
              have H' := Aside0.mk H
              clear H
              go_wp2
              go_loopg [8, 9, 10] kj8 (fun kq v8 v9 v10 w' => ∃ (x8_3 : List Int) (x9_3 : List Int) (x10_3 : Int), v10 = .int .i64 x10_3 ∧ Aside0 (pledgelaw23_ShareScales.l0 kq (Int.tmod x0_5 1000000000000) l1 a2 x8_3 x9_3 x10_3 = some r) ∧ Aside0 (kq ≤ kj8) ∧ Aside0 (Kd.R (Kd.int .i64) 2 w' w.heap.size (fun k_ => some k_ ≠ (v9 : Value).ownBlock) v8 x8_3) ∧ Aside0 (Kd.R (Kd.int .i64) 2 w' w.heap.size (fun k_ => some k_ ≠ (v8 : Value).ownBlock) v9 x9_3) ∧ Aside0 (Below w.heap.size w w'))
              case atStart => exact ⟨(([] : List Int)), (([] : List Int)), (0), (by first | rfl | (simp; done) | (simp [*]; done) | (simp [wrap64]; done) | (simp [wrap64]; omega)), H', ⟨Nat.le_refl _⟩, ⟨by first | exact Kd.R_nil _ _ _ _ _ | exact Kd.N_nil _ _ _ _ _ | exact Kd.V_nil _ _ _ _ _ | exact Kd.Q_nil _ _ _ _ _ | exact Kd.S_nil _ _ _ _ _⟩, ⟨by first | exact Kd.R_nil _ _ _ _ _ | exact Kd.N_nil _ _ _ _ _ | exact Kd.V_nil _ _ _ _ _ | exact Kd.Q_nil _ _ _ _ _ | exact Kd.S_nil _ _ _ _ _⟩, ⟨by repeat (first | (with_reducible first | exact HB.out | apply below_alloc | apply pw_below_drewN | apply below_drew1) | exact HB.out)⟩⟩
              case round =>
                clear H'
                try clear c1
                try clear p2
                try clear c5
                try clear p6
                try clear c7
                try clear c8
                try clear c8b0
                try clear c10
                try clear c10b0
                try clear c10b1
                try clear c11
                try clear c11b0
                try clear c11b1
                try clear c11b2
                try clear c12
                try clear p2
                try clear p6
                obtain ⟨x8_3, x9_3, x10_3, rfl, HA, HK3, HO_8, HO_9, HB⟩ := hrel
                cases gk with
                | zero => exact absurd HA.out (by simp [pledgelaw23_ShareScales.l0])
                | succ k3 =>
                  have H := HA.out
                  clear HA
                  simp only [pledgelaw23_ShareScales.l0] at H
                  by_cases c13 : x10_3 < (l1.length : Int)
                  · rw [if_pos c13] at H
                    have c13b0 : decide (x10_3 < (l1.length : Int)) = true := decide_eq_true c13
                    clear c13
                    by_cases c14 : 0 ≤ x10_3
                    · rw [if_pos c14] at H
                      have c14b0 : decide (0 ≤ x10_3) = true := decide_eq_true c14
                      clear c14
                      by_cases c15 : (Int.tmod (rd l1 x10_3) 1000000) < 0
                      · rw [if_pos c15] at H
                        have c15b0 : decide ((Int.tmod (rd l1 x10_3) 1000000) < 0) = true := decide_eq_true c15
                        clear c15
                        by_cases c16 : x8_3.length < 17592186044416
                        · rw [if_pos c16] at H
                          have LMc16 := Aside0.mk c16
                          clear c16
                          obtain ⟨y170, hy170⟩ : ∃ y_ : List Int, y_ = (x8_3 ++ [wrap64 ((wrap64 (-(Int.tmod (rd l1 x10_3) 1000000))) + 1)]) := ⟨_, rfl⟩
                          replace H : (if x9_3.length < 17592186044416 then (pledgelaw23_ShareScales.l0 k3 (Int.tmod x0_5 1000000000000) l1 a2 y170 (x9_3 ++ [wrap64 ((wrap64 (2 * (wrap64 (-(Int.tmod (rd l1 x10_3) 1000000))))) + 2)]) (wrap64 (x10_3 + 1))) else (none)) = some r := by first | (rw [hy170]; with_reducible exact H) | (have H2_ := (Option.bind_some _ _).symm.trans H; rw [hy170]; with_reducible exact H2_) | (have H2_ := (Option.bind_some _ _).symm.trans H; with_reducible exact H2_) | with_reducible exact H | (rw [hy170]; exact H) | exact H
                          have Ny170 := Aside0.mk hy170
                          clear hy170
                          by_cases c17 : x9_3.length < 17592186044416
                          · rw [if_pos c17] at H
                            have LMc17 := Aside0.mk c17
                            clear c17
                            obtain ⟨y173, hy173⟩ : ∃ y_ : List Int, y_ = (x9_3 ++ [wrap64 ((wrap64 (2 * (wrap64 (-(Int.tmod (rd l1 x10_3) 1000000))))) + 2)]) := ⟨_, rfl⟩
                            replace H : (pledgelaw23_ShareScales.l0 k3 (Int.tmod x0_5 1000000000000) l1 a2 y170 y173 (wrap64 (x10_3 + 1))) = some r := by first | (rw [hy173]; with_reducible exact H) | (have H2_ := (Option.bind_some _ _).symm.trans H; rw [hy173]; with_reducible exact H2_) | (have H2_ := (Option.bind_some _ _).symm.trans H; with_reducible exact H2_) | with_reducible exact H | (rw [hy173]; exact H) | exact H
                            have Ny173 := Aside0.mk hy173
                            clear hy173
                            have H' := Aside0.mk H
                            clear H
                            have p169 : 0 ≤ (x10_3 : Int) := of_decide_eq_true (by first | (with_reducible assumption) | assumption)
                            have q169 : x10_3 < (l1.length : Int) := of_decide_eq_true (by first | (with_reducible assumption) | assumption)
                            obtain ⟨ad169, e169, hx169_0⟩ := Kd.at_int HR1.out x10_3 p169 q169
                            cases e169
                            replace hx169_0 := (HB.out.cell (World.block_lt_of_cell? w _ hx169_0)).trans hx169_0
                            replace p169 := eq_true p169
                            replace q169 := eq_true q169
                            go_wp2_with (first | ((with_reducible refine gate_builtin (b := .append) (xs := #[.tmp 62, .tmp 65]) rfl ?_); (try (refine gate_guard (by rfl) ?_; dsimp only)); at_builtin; refine Kd.R_append (Kd.int .i64) (w0 := w) w.heap.size rfl (.tmp 62) (.tmp 65) 22 2 (.int .i64 0) 8 rfl Tryd.underlying22 info2 rfl (by decide) (by omega) u8 x8_3 (wrap64 ((wrap64 (-(Int.tmod (rd l1 x10_3) 1000000))) + 1)) [.int .i64 (wrap64 ((wrap64 (-(Int.tmod (rd l1 x10_3) 1000000))) + 1))] (fun k_ => some k_ ≠ (u9 : Value).ownBlock) (fun _ => False) rfl rfl ?aP (fun _ hk => hk.elim) ?aF ?aO ?aB ?aS ?aL ?_; (case aP => exact rfl); (case aB => exact (by repeat (first | (with_reducible first | exact HB.out | apply below_alloc | apply pw_below_drewN | apply below_drew1) | exact HB.out))); (case aF => exact (fun k_ hk => Kd.fresh' (Kd.R_lt (by (with_reducible repeat (first | apply Kd.R_alloc | apply Kd.R_drewN | apply Kd.R_drew)); exact HO_9.out)) k_ hk)); (case aO => exact (by (with_reducible repeat (first | apply Kd.R_alloc | apply Kd.R_drewN | apply Kd.R_drew)); exact HO_8.out)); (case aS => exact (below_size (by repeat (first | (with_reducible first | exact HB.out | apply below_alloc | apply pw_below_drewN | apply below_drew1) | exact HB.out)))); (case aL => have := LMc16.out; omega); intro v171 w18 ho hb hg hat; rw [← Ny170.out] at ho; have n0_ := Aside0.mk (Kd.R_after (ok := (fun _ => True)) (by (with_reducible repeat (first | apply Kd.R_alloc | apply Kd.R_drewN | apply Kd.R_drew)); exact Kd.R_mono HO_9.out (fun _ hk => ⟨trivial, hk⟩)) hg hat); have n1_ := Aside0.mk (hb); have n2_ := Aside0.mk (ho); clear HO_9; clear HB; clear HO_8; have HO_9 := n0_; have HB := n1_; have HO172 := n2_; clear n0_ n1_ n2_; clear ho hb hg hat) | ((with_reducible refine gate_builtin (b := .append) (xs := #[.tmp 67, .tmp 71]) rfl ?_); (try (refine gate_guard (by rfl) ?_; dsimp only)); at_builtin; refine Kd.R_append (Kd.int .i64) (w0 := w) w.heap.size rfl (.tmp 67) (.tmp 71) 22 2 (.int .i64 0) 8 rfl Tryd.underlying22 info2 rfl (by decide) (by omega) u9 x9_3 (wrap64 ((wrap64 (2 * (wrap64 (-(Int.tmod (rd l1 x10_3) 1000000))))) + 2)) [.int .i64 (wrap64 ((wrap64 (2 * (wrap64 (-(Int.tmod (rd l1 x10_3) 1000000))))) + 2))] (fun k_ => some k_ ≠ (v171 : Value).ownBlock) (fun _ => False) rfl rfl ?aP (fun _ hk => hk.elim) ?aF ?aO ?aB ?aS ?aL ?_; (case aP => exact rfl); (case aB => exact (by repeat (first | (with_reducible first | exact HB.out | apply below_alloc | apply pw_below_drewN | apply below_drew1) | exact HB.out))); (case aF => exact (fun k_ hk => Kd.fresh' (Kd.R_lt (by (with_reducible repeat (first | apply Kd.R_alloc | apply Kd.R_drewN | apply Kd.R_drew)); exact HO172.out)) k_ hk)); (case aO => exact (by (with_reducible repeat (first | apply Kd.R_alloc | apply Kd.R_drewN | apply Kd.R_drew)); exact Kd.R_mono HO_9.out (fun _ hk => hk.2))); (case aS => exact (below_size (by repeat (first | (with_reducible first | exact HB.out | apply below_alloc | apply pw_below_drewN | apply below_drew1) | exact HB.out)))); (case aL => have := LMc17.out; omega); intro v174 w19 ho hb hg hat; rw [← Ny173.out] at ho; have n0_ := Aside0.mk (Kd.R_after (ok := (fun _ => True)) (by (with_reducible repeat (first | apply Kd.R_alloc | apply Kd.R_drewN | apply Kd.R_drew)); exact Kd.R_mono HO172.out (fun _ hk => ⟨trivial, hk⟩)) hg hat); have n1_ := Aside0.mk (hb); have n2_ := Aside0.mk (ho); clear HO172; clear HB; clear HO_9; have HO172 := n0_; have HB := n1_; have HO175 := n2_; clear n0_ n1_ n2_; clear ho hb hg hat))
                            go_roundg k3
                            case measure => have := HJ5.out; have := HJ8.out; have := HK3.out; omega
                            case rel => exact ⟨(y170), (y173), (wrap64 (x10_3 + 1)), (by first | rfl | (simp; done) | (simp [*]; done) | (simp [wrap64]; done) | (simp [wrap64]; omega)), H', ⟨by have := HJ5.out; have := HJ8.out; have := HK3.out; omega⟩, ⟨by (with_reducible repeat (first | apply Kd.R_alloc | apply Kd.R_drewN | apply Kd.R_drew)); exact Kd.R_mono HO172.out (fun _ hk => hk.2)⟩, ⟨by (with_reducible repeat (first | apply Kd.R_alloc | apply Kd.R_drewN | apply Kd.R_drew)); exact HO175.out⟩, ⟨by repeat (first | (with_reducible first | exact HB.out | apply below_alloc | apply pw_below_drewN | apply below_drew1) | exact HB.out)⟩⟩
                          · rw [if_neg c17] at H
                            exact absurd H (by simp)
                        · rw [if_neg c16] at H
                          exact absurd H (by simp)
                      · rw [if_neg c15] at H
                        have c15b0 : decide ((Int.tmod (rd l1 x10_3) 1000000) < 0) = false := decide_eq_false c15
                        clear c15
                        by_cases c20 : x8_3.length < 17592186044416
                        · rw [if_pos c20] at H
                          have LMc20 := Aside0.mk c20
                          clear c20
                          obtain ⟨y176, hy176⟩ : ∃ y_ : List Int, y_ = (x8_3 ++ [wrap64 ((Int.tmod (rd l1 x10_3) 1000000) + 1)]) := ⟨_, rfl⟩
                          replace H : (if x9_3.length < 17592186044416 then (pledgelaw23_ShareScales.l0 k3 (Int.tmod x0_5 1000000000000) l1 a2 y176 (x9_3 ++ [wrap64 ((wrap64 (2 * (Int.tmod (rd l1 x10_3) 1000000))) + 2)]) (wrap64 (x10_3 + 1))) else (none)) = some r := by first | (rw [hy176]; with_reducible exact H) | (have H2_ := (Option.bind_some _ _).symm.trans H; rw [hy176]; with_reducible exact H2_) | (have H2_ := (Option.bind_some _ _).symm.trans H; with_reducible exact H2_) | with_reducible exact H | (rw [hy176]; exact H) | exact H
                          have Ny176 := Aside0.mk hy176
                          clear hy176
                          by_cases c21 : x9_3.length < 17592186044416
                          · rw [if_pos c21] at H
                            have LMc21 := Aside0.mk c21
                            clear c21
                            obtain ⟨y179, hy179⟩ : ∃ y_ : List Int, y_ = (x9_3 ++ [wrap64 ((wrap64 (2 * (Int.tmod (rd l1 x10_3) 1000000))) + 2)]) := ⟨_, rfl⟩
                            replace H : (pledgelaw23_ShareScales.l0 k3 (Int.tmod x0_5 1000000000000) l1 a2 y176 y179 (wrap64 (x10_3 + 1))) = some r := by first | (rw [hy179]; with_reducible exact H) | (have H2_ := (Option.bind_some _ _).symm.trans H; rw [hy179]; with_reducible exact H2_) | (have H2_ := (Option.bind_some _ _).symm.trans H; with_reducible exact H2_) | with_reducible exact H | (rw [hy179]; exact H) | exact H
                            have Ny179 := Aside0.mk hy179
                            clear hy179
                            have H' := Aside0.mk H
                            clear H
                            have p169 : 0 ≤ (x10_3 : Int) := of_decide_eq_true (by first | (with_reducible assumption) | assumption)
                            have q169 : x10_3 < (l1.length : Int) := of_decide_eq_true (by first | (with_reducible assumption) | assumption)
                            obtain ⟨ad169, e169, hx169_0⟩ := Kd.at_int HR1.out x10_3 p169 q169
                            cases e169
                            replace hx169_0 := (HB.out.cell (World.block_lt_of_cell? w _ hx169_0)).trans hx169_0
                            replace p169 := eq_true p169
                            replace q169 := eq_true q169
                            go_wp2_with (first | ((with_reducible refine gate_builtin (b := .append) (xs := #[.tmp 62, .tmp 65]) rfl ?_); (try (refine gate_guard (by rfl) ?_; dsimp only)); at_builtin; refine Kd.R_append (Kd.int .i64) (w0 := w) w.heap.size rfl (.tmp 62) (.tmp 65) 22 2 (.int .i64 0) 8 rfl Tryd.underlying22 info2 rfl (by decide) (by omega) u8 x8_3 (wrap64 ((Int.tmod (rd l1 x10_3) 1000000) + 1)) [.int .i64 (wrap64 ((Int.tmod (rd l1 x10_3) 1000000) + 1))] (fun k_ => some k_ ≠ (u9 : Value).ownBlock) (fun _ => False) rfl rfl ?aP (fun _ hk => hk.elim) ?aF ?aO ?aB ?aS ?aL ?_; (case aP => exact rfl); (case aB => exact (by repeat (first | (with_reducible first | exact HB.out | apply below_alloc | apply pw_below_drewN | apply below_drew1) | exact HB.out))); (case aF => exact (fun k_ hk => Kd.fresh' (Kd.R_lt (by (with_reducible repeat (first | apply Kd.R_alloc | apply Kd.R_drewN | apply Kd.R_drew)); exact HO_9.out)) k_ hk)); (case aO => exact (by (with_reducible repeat (first | apply Kd.R_alloc | apply Kd.R_drewN | apply Kd.R_drew)); exact HO_8.out)); (case aS => exact (below_size (by repeat (first | (with_reducible first | exact HB.out | apply below_alloc | apply pw_below_drewN | apply below_drew1) | exact HB.out)))); (case aL => have := LMc20.out; omega); intro v177 w22 ho hb hg hat; rw [← Ny176.out] at ho; have n0_ := Aside0.mk (Kd.R_after (ok := (fun _ => True)) (by (with_reducible repeat (first | apply Kd.R_alloc | apply Kd.R_drewN | apply Kd.R_drew)); exact Kd.R_mono HO_9.out (fun _ hk => ⟨trivial, hk⟩)) hg hat); have n1_ := Aside0.mk (hb); have n2_ := Aside0.mk (ho); clear HO_9; clear HB; clear HO_8; have HO_9 := n0_; have HB := n1_; have HO178 := n2_; clear n0_ n1_ n2_; clear ho hb hg hat) | ((with_reducible refine gate_builtin (b := .append) (xs := #[.tmp 67, .tmp 71]) rfl ?_); (try (refine gate_guard (by rfl) ?_; dsimp only)); at_builtin; refine Kd.R_append (Kd.int .i64) (w0 := w) w.heap.size rfl (.tmp 67) (.tmp 71) 22 2 (.int .i64 0) 8 rfl Tryd.underlying22 info2 rfl (by decide) (by omega) u9 x9_3 (wrap64 ((wrap64 (2 * (Int.tmod (rd l1 x10_3) 1000000))) + 2)) [.int .i64 (wrap64 ((wrap64 (2 * (Int.tmod (rd l1 x10_3) 1000000))) + 2))] (fun k_ => some k_ ≠ (v177 : Value).ownBlock) (fun _ => False) rfl rfl ?aP (fun _ hk => hk.elim) ?aF ?aO ?aB ?aS ?aL ?_; (case aP => exact rfl); (case aB => exact (by repeat (first | (with_reducible first | exact HB.out | apply below_alloc | apply pw_below_drewN | apply below_drew1) | exact HB.out))); (case aF => exact (fun k_ hk => Kd.fresh' (Kd.R_lt (by (with_reducible repeat (first | apply Kd.R_alloc | apply Kd.R_drewN | apply Kd.R_drew)); exact HO178.out)) k_ hk)); (case aO => exact (by (with_reducible repeat (first | apply Kd.R_alloc | apply Kd.R_drewN | apply Kd.R_drew)); exact Kd.R_mono HO_9.out (fun _ hk => hk.2))); (case aS => exact (below_size (by repeat (first | (with_reducible first | exact HB.out | apply below_alloc | apply pw_below_drewN | apply below_drew1) | exact HB.out)))); (case aL => have := LMc21.out; omega); intro v180 w23 ho hb hg hat; rw [← Ny179.out] at ho; have n0_ := Aside0.mk (Kd.R_after (ok := (fun _ => True)) (by (with_reducible repeat (first | apply Kd.R_alloc | apply Kd.R_drewN | apply Kd.R_drew)); exact Kd.R_mono HO178.out (fun _ hk => ⟨trivial, hk⟩)) hg hat); have n1_ := Aside0.mk (hb); have n2_ := Aside0.mk (ho); clear HO178; clear HB; clear HO_9; have HO178 := n0_; have HB := n1_; have HO181 := n2_; clear n0_ n1_ n2_; clear ho hb hg hat))
                            go_roundg k3
                            case measure => have := HJ5.out; have := HJ8.out; have := HK3.out; omega
                            case rel => exact ⟨(y176), (y179), (wrap64 (x10_3 + 1)), (by first | rfl | (simp; done) | (simp [*]; done) | (simp [wrap64]; done) | (simp [wrap64]; omega)), H', ⟨by have := HJ5.out; have := HJ8.out; have := HK3.out; omega⟩, ⟨by (with_reducible repeat (first | apply Kd.R_alloc | apply Kd.R_drewN | apply Kd.R_drew)); exact Kd.R_mono HO178.out (fun _ hk => hk.2)⟩, ⟨by (with_reducible repeat (first | apply Kd.R_alloc | apply Kd.R_drewN | apply Kd.R_drew)); exact HO181.out⟩, ⟨by repeat (first | (with_reducible first | exact HB.out | apply below_alloc | apply pw_below_drewN | apply below_drew1) | exact HB.out)⟩⟩
                          · rw [if_neg c21] at H
                            exact absurd H (by simp)
                        · rw [if_neg c20] at H
                          exact absurd H (by simp)
                    · rw [if_neg c14] at H
                      exact absurd H (by simp)
                  · rw [if_neg c13] at H
                    have c13b0 : decide (x10_3 < (l1.length : Int)) = false := decide_eq_false c13
                    clear c13
                    replace H := Option.bind_eq_some_iff.mp H
                    obtain ⟨⟨t182, t183⟩, A240, H⟩ := H
                    replace H : ((share_Split.f (Int.tmod x0_5 1000000000000) x9_3).bind fun bt186 => ((share_Split.f (Int.tmod x0_5 1000000000000) (([7] : List Int))).bind fun bt193 => ((pledgeworld_Number.f a2 32).bind fun t197 => (pledgelaw23_ShareScales.l1 k3 (Int.tmod x0_5 1000000000000) (wrap64 (t197 + 1)) t182 t183 bt186.1 bt186.2 bt193.1 bt193.2 ([] : List Int) 0)))) = some r := H
                    have A24 := Aside0.mk A240
                    clear A240
                    replace H := Option.bind_eq_some_iff.mp H
                    obtain ⟨⟨t186, t187⟩, A250, H⟩ := H
                    replace H : ((share_Split.f (Int.tmod x0_5 1000000000000) (([7] : List Int))).bind fun bt193 => ((pledgeworld_Number.f a2 32).bind fun t197 => (pledgelaw23_ShareScales.l1 k3 (Int.tmod x0_5 1000000000000) (wrap64 (t197 + 1)) t182 t183 t186 t187 bt193.1 bt193.2 ([] : List Int) 0))) = some r := H
                    have A25 := Aside0.mk A250
                    clear A250
                    obtain ⟨y190, hy190⟩ : ∃ y_ : List Int, y_ = (([7] : List Int)) := ⟨_, rfl⟩
                    replace H : ((share_Split.f (Int.tmod x0_5 1000000000000) y190).bind fun bt193 => ((pledgeworld_Number.f a2 32).bind fun t197 => (pledgelaw23_ShareScales.l1 k3 (Int.tmod x0_5 1000000000000) (wrap64 (t197 + 1)) t182 t183 t186 t187 bt193.1 bt193.2 ([] : List Int) 0))) = some r := by first | (rw [hy190]; with_reducible exact H) | (have H2_ := (Option.bind_some _ _).symm.trans H; rw [hy190]; with_reducible exact H2_) | (have H2_ := (Option.bind_some _ _).symm.trans H; with_reducible exact H2_) | with_reducible exact H | (rw [hy190]; exact H) | exact H
                    have Ny190 := Aside0.mk hy190
                    clear hy190
                    replace H := Option.bind_eq_some_iff.mp H
                    obtain ⟨⟨t193, t194⟩, A260, H⟩ := H
                    replace H : ((pledgeworld_Number.f a2 32).bind fun t197 => (pledgelaw23_ShareScales.l1 k3 (Int.tmod x0_5 1000000000000) (wrap64 (t197 + 1)) t182 t183 t186 t187 t193 t194 ([] : List Int) 0)) = some r := H
                    have A26 := Aside0.mk A260
                    clear A260
                    replace H := Option.bind_eq_some_iff.mp H
                    obtain ⟨t197, A270, H⟩ := H
                    replace H : (pledgelaw23_ShareScales.l1 k3 (Int.tmod x0_5 1000000000000) (wrap64 (t197 + 1)) t182 t183 t186 t187 t193 t194 ([] : List Int) 0) = some r := H
                    have A27 := Aside0.mk A270
                    clear A270
                    have H' := Aside0.mk H
                    clear H
                    obtain ⟨Ao28, co28, eo28⟩ := Kd.R_slice HO_8.out
                    subst eo28
                    go_wp2_with (first | ((with_reducible refine gate_callee (f := 8) rfl ?_); refine goesL_ (some 76) rfl rfl Tryd.func8 (by kernel_rfl) rfl #[.int .i64 (Int.tmod x0_5 1000000000000), .slice Ao28 x8_3.length co28] rfl (by (try simp only [List.map_toArray, List.map_cons, List.map_nil]); first | done | rfl | (simp only [List.length_drop, List.length_take]; rfl)) ?_; (with_reducible refine (share_Split.calls (Int.tmod x0_5 1000000000000) _ _ x8_3 t182 t183 _ ?side1 ?side2 ?side3 A24.out).mono ?_); (case side1 => exact GlobOK.below HG.out (by repeat (first | (with_reducible first | exact HB.out | apply below_alloc | apply pw_below_drewN | apply below_drew1) | exact HB.out))); (case side2 => repeat (first | exact (Kd.R_reads' HO_8.out).2.2 | (with_reducible refine Kd.C_alloc ?_ _) | (with_reducible refine Kd.C_drewN ?_ _) | (with_reducible refine Kd.C_drew ?_))); (case side3 => exact (Kd.R_reads' HO_8.out).2.1); rintro e w29 ⟨v184, rfl, ho0, hb⟩; refine ⟨_, rfl, ?_⟩; have n0_ := Aside0.mk (Kd.R_elder' (by (with_reducible repeat (first | apply Kd.R_alloc | apply Kd.R_drewN | apply Kd.R_drew)); exact HO_8.out) (Kd.R_base ho0) hb); have n1_ := Aside0.mk (Kd.R_elder' (by (with_reducible repeat (first | apply Kd.R_alloc | apply Kd.R_drewN | apply Kd.R_drew)); exact HO_9.out) (Kd.R_base ho0) hb); have n2_ := Aside0.mk (Kd.R_lower (Kd.R_new' (Kd.R_new' ho0 (Kd.R_lt (by (with_reducible repeat (first | apply Kd.R_alloc | apply Kd.R_drewN | apply Kd.R_drew)); exact HO_8.out))) (Kd.R_lt (by (with_reducible repeat (first | apply Kd.R_alloc | apply Kd.R_drewN | apply Kd.R_drew)); exact HO_9.out))) (below_size (by repeat (first | (with_reducible first | exact HB.out | apply below_alloc | apply pw_below_drewN | apply below_drew1) | exact HB.out)))); have n3_ := Aside0.mk (below_step (by repeat (first | (with_reducible first | exact HB.out | apply below_alloc | apply pw_below_drewN | apply below_drew1) | exact HB.out)) hb); clear HO_8; clear HO_9; clear HB; have HO_8 := n0_; have HO_9 := n1_; have HO185 := n2_; have HB := n3_; clear n0_ n1_ n2_ n3_; (try clear hb); (try clear hb2); (try clear hk); (try clear hi); (try clear ho0); (try simp only [errW_none, errW_some]); obtain ⟨Ao30, co30, eo30⟩ := Kd.R_slice HO_9.out; subst eo30) | ((with_reducible refine gate_callee (f := 8) rfl ?_); refine goesL_ (some 82) rfl rfl Tryd.func8 (by kernel_rfl) rfl #[.int .i64 (Int.tmod x0_5 1000000000000), .slice Ao30 x9_3.length co30] rfl (by (try simp only [List.map_toArray, List.map_cons, List.map_nil]); first | done | rfl | (simp only [List.length_drop, List.length_take]; rfl)) ?_; (with_reducible refine (share_Split.calls (Int.tmod x0_5 1000000000000) _ _ x9_3 t186 t187 _ ?side1 ?side2 ?side3 A25.out).mono ?_); (case side1 => exact GlobOK.below HG.out (by repeat (first | (with_reducible first | exact HB.out | apply below_alloc | apply pw_below_drewN | apply below_drew1) | exact HB.out))); (case side2 => repeat (first | exact (Kd.R_reads' HO_9.out).2.2 | (with_reducible refine Kd.C_alloc ?_ _) | (with_reducible refine Kd.C_drewN ?_ _) | (with_reducible refine Kd.C_drew ?_))); (case side3 => exact (Kd.R_reads' HO_9.out).2.1); rintro e w31 ⟨v188, rfl, ho0, hb⟩; refine ⟨_, rfl, ?_⟩; have n0_ := Aside0.mk (Kd.R_elder' (by (with_reducible repeat (first | apply Kd.R_alloc | apply Kd.R_drewN | apply Kd.R_drew)); exact HO_8.out) (Kd.R_base ho0) hb); have n1_ := Aside0.mk (Kd.R_elder' (by (with_reducible repeat (first | apply Kd.R_alloc | apply Kd.R_drewN | apply Kd.R_drew)); exact HO_9.out) (Kd.R_base ho0) hb); have n2_ := Aside0.mk (Kd.R_elder' (by (with_reducible repeat (first | apply Kd.R_alloc | apply Kd.R_drewN | apply Kd.R_drew)); exact HO185.out) (Kd.R_base ho0) hb); have n3_ := Aside0.mk (Kd.R_lower (Kd.R_new' (Kd.R_new' (Kd.R_new' ho0 (Kd.R_lt (by (with_reducible repeat (first | apply Kd.R_alloc | apply Kd.R_drewN | apply Kd.R_drew)); exact HO_8.out))) (Kd.R_lt (by (with_reducible repeat (first | apply Kd.R_alloc | apply Kd.R_drewN | apply Kd.R_drew)); exact HO_9.out))) (Kd.R_lt (by (with_reducible repeat (first | apply Kd.R_alloc | apply Kd.R_drewN | apply Kd.R_drew)); exact HO185.out))) (below_size (by repeat (first | (with_reducible first | exact HB.out | apply below_alloc | apply pw_below_drewN | apply below_drew1) | exact HB.out)))); have n4_ := Aside0.mk (below_step (by repeat (first | (with_reducible first | exact HB.out | apply below_alloc | apply pw_below_drewN | apply below_drew1) | exact HB.out)) hb); clear HO_8; clear HO_9; clear HO185; clear HB; have HO_8 := n0_; have HO_9 := n1_; have HO185 := n2_; have HO189 := n3_; have HB := n4_; clear n0_ n1_ n2_ n3_ n4_; (try clear hb); (try clear hb2); (try clear hk); (try clear hi); (try clear ho0); (try simp only [errW_none, errW_some])) | ((with_reducible refine gate_dst (N := 87) rfl ?_); (try (refine gate_guard (by rfl) ?_; dsimp only)); refine Kd.R_lit (Kd.int .i64) _ 2 ?hg (N := 87) ?hd (xs := ([7] : List Int)) (inner := [.int .i64 7]) (ok := fun _ => True) (okp := fun _ => True) ?hr ?hp (fun _ hk => hk) trivial (Below.refl _ _) (Nat.le_refl _) (by simp) ?_; (case hd => rfl); (case hg => rfl); (case hr => first | (go_simp; done) | (go_simp; rfl)); (case hp => exact (Reps.one (show Kd.M (Kd.int .i64) _ _ _ 7 [.int .i64 7] from rfl) (Reps.none _ _))); intro v191 w32 ho33 hb hg_ hnew_; clear hg_ hnew_; (first | rw [← Ny190.out] at ho33 | (simp only [Int.reduceToNat] at ho33; rw [← Ny190.out] at ho33)); have n0_ := Aside0.mk (Kd.R_elder' (by (with_reducible repeat (first | apply Kd.R_alloc | apply Kd.R_drewN | apply Kd.R_drew)); exact HO_8.out) (Kd.R_base ho33) hb); have n1_ := Aside0.mk (Kd.R_elder' (by (with_reducible repeat (first | apply Kd.R_alloc | apply Kd.R_drewN | apply Kd.R_drew)); exact HO_9.out) (Kd.R_base ho33) hb); have n2_ := Aside0.mk (Kd.R_elder' (by (with_reducible repeat (first | apply Kd.R_alloc | apply Kd.R_drewN | apply Kd.R_drew)); exact HO185.out) (Kd.R_base ho33) hb); have n3_ := Aside0.mk (Kd.R_elder' (by (with_reducible repeat (first | apply Kd.R_alloc | apply Kd.R_drewN | apply Kd.R_drew)); exact HO189.out) (Kd.R_base ho33) hb); have n4_ := Aside0.mk (Kd.R_lower (Kd.R_new' (Kd.R_new' (Kd.R_new' (Kd.R_new' ho33 (Kd.R_lt (by (with_reducible repeat (first | apply Kd.R_alloc | apply Kd.R_drewN | apply Kd.R_drew)); exact HO_8.out))) (Kd.R_lt (by (with_reducible repeat (first | apply Kd.R_alloc | apply Kd.R_drewN | apply Kd.R_drew)); exact HO_9.out))) (Kd.R_lt (by (with_reducible repeat (first | apply Kd.R_alloc | apply Kd.R_drewN | apply Kd.R_drew)); exact HO185.out))) (Kd.R_lt (by (with_reducible repeat (first | apply Kd.R_alloc | apply Kd.R_drewN | apply Kd.R_drew)); exact HO189.out))) (below_size (by repeat (first | (with_reducible first | exact HB.out | apply below_alloc | apply pw_below_drewN | apply below_drew1) | exact HB.out)))); have n5_ := Aside0.mk (below_step (by repeat (first | (with_reducible first | exact HB.out | apply below_alloc | apply pw_below_drewN | apply below_drew1) | exact HB.out)) hb); clear HO_8; clear HO_9; clear HO185; clear HO189; clear HB; have HO_8 := n0_; have HO_9 := n1_; have HO185 := n2_; have HO189 := n3_; have HO192 := n4_; have HB := n5_; clear n0_ n1_ n2_ n3_ n4_ n5_; clear hb ho33; obtain ⟨Ao34, co34, eo34⟩ := Kd.R_slice HO192.out; subst eo34) | ((with_reducible refine gate_callee (f := 8) rfl ?_); refine goesL_ (some 88) rfl rfl Tryd.func8 (by kernel_rfl) rfl #[.int .i64 (Int.tmod x0_5 1000000000000), .slice Ao34 y190.length co34] rfl (by (try simp only [List.map_toArray, List.map_cons, List.map_nil]); first | done | rfl | (simp only [List.length_drop, List.length_take]; rfl)) ?_; (with_reducible refine (share_Split.calls (Int.tmod x0_5 1000000000000) _ _ y190 t193 t194 _ ?side1 ?side2 ?side3 A26.out).mono ?_); (case side1 => exact GlobOK.below HG.out (by repeat (first | (with_reducible first | exact HB.out | apply below_alloc | apply pw_below_drewN | apply below_drew1) | exact HB.out))); (case side2 => repeat (first | exact (Kd.R_reads' HO192.out).2.2 | (with_reducible refine Kd.C_alloc ?_ _) | (with_reducible refine Kd.C_drewN ?_ _) | (with_reducible refine Kd.C_drew ?_))); (case side3 => exact (Kd.R_reads' HO192.out).2.1); rintro e w35 ⟨v195, rfl, ho0, hb⟩; refine ⟨_, rfl, ?_⟩; have n0_ := Aside0.mk (Kd.R_elder' (by (with_reducible repeat (first | apply Kd.R_alloc | apply Kd.R_drewN | apply Kd.R_drew)); exact HO_8.out) (Kd.R_base ho0) hb); have n1_ := Aside0.mk (Kd.R_elder' (by (with_reducible repeat (first | apply Kd.R_alloc | apply Kd.R_drewN | apply Kd.R_drew)); exact HO_9.out) (Kd.R_base ho0) hb); have n2_ := Aside0.mk (Kd.R_elder' (by (with_reducible repeat (first | apply Kd.R_alloc | apply Kd.R_drewN | apply Kd.R_drew)); exact HO185.out) (Kd.R_base ho0) hb); have n3_ := Aside0.mk (Kd.R_elder' (by (with_reducible repeat (first | apply Kd.R_alloc | apply Kd.R_drewN | apply Kd.R_drew)); exact HO189.out) (Kd.R_base ho0) hb); have n4_ := Aside0.mk (Kd.R_elder' (by (with_reducible repeat (first | apply Kd.R_alloc | apply Kd.R_drewN | apply Kd.R_drew)); exact HO192.out) (Kd.R_base ho0) hb); have n5_ := Aside0.mk (Kd.R_lower (Kd.R_new' (Kd.R_new' (Kd.R_new' (Kd.R_new' (Kd.R_new' ho0 (Kd.R_lt (by (with_reducible repeat (first | apply Kd.R_alloc | apply Kd.R_drewN | apply Kd.R_drew)); exact HO_8.out))) (Kd.R_lt (by (with_reducible repeat (first | apply Kd.R_alloc | apply Kd.R_drewN | apply Kd.R_drew)); exact HO_9.out))) (Kd.R_lt (by (with_reducible repeat (first | apply Kd.R_alloc | apply Kd.R_drewN | apply Kd.R_drew)); exact HO185.out))) (Kd.R_lt (by (with_reducible repeat (first | apply Kd.R_alloc | apply Kd.R_drewN | apply Kd.R_drew)); exact HO189.out))) (Kd.R_lt (by (with_reducible repeat (first | apply Kd.R_alloc | apply Kd.R_drewN | apply Kd.R_drew)); exact HO192.out))) (below_size (by repeat (first | (with_reducible first | exact HB.out | apply below_alloc | apply pw_below_drewN | apply below_drew1) | exact HB.out)))); have n6_ := Aside0.mk (below_step (by repeat (first | (with_reducible first | exact HB.out | apply below_alloc | apply pw_below_drewN | apply below_drew1) | exact HB.out)) hb); clear HO_8; clear HO_9; clear HO185; clear HO189; clear HO192; clear HB; have HO_8 := n0_; have HO_9 := n1_; have HO185 := n2_; have HO189 := n3_; have HO192 := n4_; have HO196 := n5_; have HB := n6_; clear n0_ n1_ n2_ n3_ n4_ n5_ n6_; (try clear hb); (try clear hb2); (try clear hk); (try clear hi); (try clear ho0); (try simp only [errW_none, errW_some])) | ((with_reducible refine gate_callee (f := 15) rfl ?_); refine goesL_ (some 92) rfl rfl Tryd.func15 (by kernel_rfl) rfl #[.int .i64 a2, .int .i64 32] rfl (by (try simp only [List.map_toArray, List.map_cons, List.map_nil]); first | done | rfl | (simp only [List.length_drop, List.length_take]; rfl)) ?_; (with_reducible refine (pledgeworld_Number.calls a2 32 t197 _ A27.out).mono ?_); rintro e w' ⟨rfl, ⟨nd, rfl⟩⟩; refine ⟨_, rfl, ?_⟩))
                    go_loopg [18, 19] k3 (fun kq v18 v19 w' => ∃ (x18_4 : List Int) (x19_4 : Int), v19 = .int .i64 x19_4 ∧ Aside0 (pledgelaw23_ShareScales.l1 kq (Int.tmod x0_5 1000000000000) (wrap64 (t197 + 1)) t182 t183 t186 t187 t193 t194 x18_4 x19_4 = some r) ∧ Aside0 (kq ≤ k3) ∧ Aside0 (Kd.R (Kd.int .i64) 2 w' w.heap.size (fun k_ => some k_ ≠ (v188 : Value).ownBlock ∧ some k_ ≠ (v195 : Value).ownBlock ∧ some k_ ≠ (v18 : Value).ownBlock) v184 t182) ∧ Aside0 (Kd.R (Kd.int .i64) 2 w' w.heap.size (fun k_ => some k_ ≠ (v184 : Value).ownBlock ∧ some k_ ≠ (v195 : Value).ownBlock ∧ some k_ ≠ (v18 : Value).ownBlock) v188 t186) ∧ Aside0 (Kd.R (Kd.int .i64) 2 w' w.heap.size (fun k_ => some k_ ≠ (v184 : Value).ownBlock ∧ some k_ ≠ (v188 : Value).ownBlock ∧ some k_ ≠ (v18 : Value).ownBlock) v195 t193) ∧ Aside0 (Kd.R (Kd.int .i64) 2 w' w.heap.size (fun k_ => some k_ ≠ (v184 : Value).ownBlock ∧ some k_ ≠ (v188 : Value).ownBlock ∧ some k_ ≠ (v195 : Value).ownBlock) v18 x18_4) ∧ Aside0 (Below w.heap.size w w'))
                    case atStart => exact ⟨(([] : List Int)), (0), (by first | rfl | (simp; done) | (simp [*]; done) | (simp [wrap64]; done) | (simp [wrap64]; omega)), H', ⟨Nat.le_refl _⟩, ⟨by (with_reducible repeat (first | apply Kd.R_alloc | apply Kd.R_drewN | apply Kd.R_drew)); exact Kd.R_mono HO185.out (fun _ hk => ⟨hk.1.1.2, ⟨hk.2, (by simp [Value.ownBlock])⟩⟩)⟩, ⟨by (with_reducible repeat (first | apply Kd.R_alloc | apply Kd.R_drewN | apply Kd.R_drew)); exact Kd.R_mono HO189.out (fun _ hk => ⟨hk.1.1.2, ⟨hk.2, (by simp [Value.ownBlock])⟩⟩)⟩, ⟨by (with_reducible repeat (first | apply Kd.R_alloc | apply Kd.R_drewN | apply Kd.R_drew)); exact Kd.R_mono HO196.out (fun _ hk => ⟨hk.1.1.2, ⟨hk.1.2, (by simp [Value.ownBlock])⟩⟩)⟩, ⟨by first | exact Kd.R_nil _ _ _ _ _ | exact Kd.N_nil _ _ _ _ _ | exact Kd.V_nil _ _ _ _ _ | exact Kd.Q_nil _ _ _ _ _ | exact Kd.S_nil _ _ _ _ _⟩, ⟨by repeat (first | (with_reducible first | exact HB.out | apply below_alloc | apply pw_below_drewN | apply below_drew1) | exact HB.out)⟩⟩
                    case round =>
                      clear H'
                      try clear c1
                      try clear p1
                      try clear q1
                      try clear hx1
                      try clear c2
                      try clear p2
                      try clear c5
                      try clear p6
                      try clear c7
                      try clear c8
                      try clear c8b0
                      try clear c10
                      try clear c10b0
                      try clear c10b1
                      try clear c11
                      try clear c11b0
                      try clear c11b1
                      try clear c11b2
                      try clear c12
                      try clear c13
                      try clear c13b0
                      try clear c14
                      try clear c14b0
                      try clear c15
                      try clear c15b0
                      try clear c16
                      try clear p16
                      try clear q16
                      try clear hx16
                      try clear c17
                      try clear c20
                      try clear c21
                      try clear hx169_0
                      try clear p169
                      try clear p2
                      try clear p6
                      try clear q169
                      obtain ⟨x18_4, x19_4, rfl, HA, HK4, HO_12, HO_14, HO_16, HO_18, HB⟩ := hrel
                      cases gk with
                      | zero => exact absurd HA.out (by simp [pledgelaw23_ShareScales.l1])
                      | succ k4 =>
                        have H := HA.out
                        clear HA
                        simp only [pledgelaw23_ShareScales.l1] at H
                        by_cases c36 : x19_4 < (wrap64 (t197 + 1))
                        · rw [if_pos c36] at H
                          have c36b0 : decide (x19_4 < (wrap64 (t197 + 1))) = true := decide_eq_true c36
                          clear c36
                          by_cases c37 : x18_4.length < 17592186044416
                          · rw [if_pos c37] at H
                            have LMc37 := Aside0.mk c37
                            clear c37
                            obtain ⟨y198, hy198⟩ : ∃ y_ : List Int, y_ = (x18_4 ++ [3]) := ⟨_, rfl⟩
                            replace H : (pledgelaw23_ShareScales.l1 k4 (Int.tmod x0_5 1000000000000) (wrap64 (t197 + 1)) t182 t183 t186 t187 t193 t194 y198 (wrap64 (x19_4 + 1))) = some r := by first | (rw [hy198]; with_reducible exact H) | (have H2_ := (Option.bind_some _ _).symm.trans H; rw [hy198]; with_reducible exact H2_) | (have H2_ := (Option.bind_some _ _).symm.trans H; with_reducible exact H2_) | with_reducible exact H | (rw [hy198]; exact H) | exact H
                            have Ny198 := Aside0.mk hy198
                            clear hy198
                            have H' := Aside0.mk H
                            clear H
                            go_wp2_with (first | ((with_reducible refine gate_builtin (b := .append) (xs := #[.tmp 99, .tmp 100]) rfl ?_); (try (refine gate_guard (by rfl) ?_; dsimp only)); at_builtin; refine Kd.R_append (Kd.int .i64) (w0 := w) w.heap.size rfl (.tmp 99) (.tmp 100) 22 2 (.int .i64 0) 8 rfl Tryd.underlying22 info2 rfl (by decide) (by omega) u18 x18_4 3 [.int .i64 3] (fun k_ => some k_ ≠ (v184 : Value).ownBlock ∧ some k_ ≠ (v188 : Value).ownBlock ∧ some k_ ≠ (v195 : Value).ownBlock) (fun _ => False) rfl rfl ?aP (fun _ hk => hk.elim) ?aF ?aO ?aB ?aS ?aL ?_; (case aP => exact rfl); (case aB => exact (by repeat (first | (with_reducible first | exact HB.out | apply below_alloc | apply pw_below_drewN | apply below_drew1) | exact HB.out))); (case aF => exact (fun k_ hk => ⟨Kd.fresh' (Kd.R_lt (by (with_reducible repeat (first | apply Kd.R_alloc | apply Kd.R_drewN | apply Kd.R_drew)); exact HO_12.out)) k_ hk, Kd.fresh' (Kd.R_lt (by (with_reducible repeat (first | apply Kd.R_alloc | apply Kd.R_drewN | apply Kd.R_drew)); exact HO_14.out)) k_ hk, Kd.fresh' (Kd.R_lt (by (with_reducible repeat (first | apply Kd.R_alloc | apply Kd.R_drewN | apply Kd.R_drew)); exact HO_16.out)) k_ hk⟩)); (case aO => exact (by (with_reducible repeat (first | apply Kd.R_alloc | apply Kd.R_drewN | apply Kd.R_drew)); exact HO_18.out)); (case aS => exact (below_size (by repeat (first | (with_reducible first | exact HB.out | apply below_alloc | apply pw_below_drewN | apply below_drew1) | exact HB.out)))); (case aL => have := LMc37.out; omega); intro v199 w38 ho hb hg hat; rw [← Ny198.out] at ho; have n0_ := Aside0.mk (Kd.R_after (ok := (fun k_ => some k_ ≠ (v188 : Value).ownBlock ∧ some k_ ≠ (v195 : Value).ownBlock)) (by (with_reducible repeat (first | apply Kd.R_alloc | apply Kd.R_drewN | apply Kd.R_drew)); exact Kd.R_mono HO_12.out (fun _ hk => ⟨⟨hk.1, hk.2.1⟩, hk.2.2⟩)) hg hat); have n1_ := Aside0.mk (Kd.R_after (ok := (fun k_ => some k_ ≠ (v184 : Value).ownBlock ∧ some k_ ≠ (v195 : Value).ownBlock)) (by (with_reducible repeat (first | apply Kd.R_alloc | apply Kd.R_drewN | apply Kd.R_drew)); exact Kd.R_mono HO_14.out (fun _ hk => ⟨⟨hk.1, hk.2.1⟩, hk.2.2⟩)) hg hat); have n2_ := Aside0.mk (Kd.R_after (ok := (fun k_ => some k_ ≠ (v184 : Value).ownBlock ∧ some k_ ≠ (v188 : Value).ownBlock)) (by (with_reducible repeat (first | apply Kd.R_alloc | apply Kd.R_drewN | apply Kd.R_drew)); exact Kd.R_mono HO_16.out (fun _ hk => ⟨⟨hk.1, hk.2.1⟩, hk.2.2⟩)) hg hat); have n3_ := Aside0.mk (hb); have n4_ := Aside0.mk (ho); clear HO_12; clear HO_14; clear HO_16; clear HB; clear HO_18; have HO_12 := n0_; have HO_14 := n1_; have HO_16 := n2_; have HB := n3_; have HO200 := n4_; clear n0_ n1_ n2_ n3_ n4_; clear ho hb hg hat))
                            go_roundg k4
                            case measure => have := HJ5.out; have := HJ8.out; have := HK3.out; have := HK4.out; omega
                            case rel => exact ⟨(y198), (wrap64 (x19_4 + 1)), (by first | rfl | (simp; done) | (simp [*]; done) | (simp [wrap64]; done) | (simp [wrap64]; omega)), H', ⟨by have := HJ5.out; have := HJ8.out; have := HK3.out; have := HK4.out; omega⟩, ⟨by (with_reducible repeat (first | apply Kd.R_alloc | apply Kd.R_drewN | apply Kd.R_drew)); exact Kd.R_mono HO_12.out (fun _ hk => ⟨hk.1.1, ⟨hk.1.2, hk.2⟩⟩)⟩, ⟨by (with_reducible repeat (first | apply Kd.R_alloc | apply Kd.R_drewN | apply Kd.R_drew)); exact Kd.R_mono HO_14.out (fun _ hk => ⟨hk.1.1, ⟨hk.1.2, hk.2⟩⟩)⟩, ⟨by (with_reducible repeat (first | apply Kd.R_alloc | apply Kd.R_drewN | apply Kd.R_drew)); exact Kd.R_mono HO_16.out (fun _ hk => ⟨hk.1.1, ⟨hk.1.2, hk.2⟩⟩)⟩, ⟨by (with_reducible repeat (first | apply Kd.R_alloc | apply Kd.R_drewN | apply Kd.R_drew)); exact HO200.out⟩, ⟨by repeat (first | (with_reducible first | exact HB.out | apply below_alloc | apply pw_below_drewN | apply below_drew1) | exact HB.out)⟩⟩
                          · rw [if_neg c37] at H
                            exact absurd H (by simp)
                        · rw [if_neg c36] at H
                          have c36b0 : decide (x19_4 < (wrap64 (t197 + 1))) = false := decide_eq_false c36
                          clear c36
                          replace H := Option.bind_eq_some_iff.mp H
                          obtain ⟨⟨t201, t202⟩, A390, H⟩ := H
                          replace H : (if t183.isNone = true then (if t187.isNone = true then (if t194.isNone = true then (if t202.isNone = true then ((pledgeref_SameLongs.f k4 t182 t186).bind fun t209 => (if t209 = true then (if (t193.length : Int) = 1 then (if 0 < (t193.length : Int) then (pledgelaw23_ShareScales.j4 k4 (Int.tmod x0_5 1000000000000) (wrap64 (t197 + 1)) t201 ((rd t193 0) != (Int.tmod x0_5 1000000000000))) else (none)) else (pledgelaw23_ShareScales.j4 k4 (Int.tmod x0_5 1000000000000) (wrap64 (t197 + 1)) t201 true)) else (pledgelaw23_ShareScales.j4 k4 (Int.tmod x0_5 1000000000000) (wrap64 (t197 + 1)) t201 true))) else (pledgelaw23_ShareScales.j4 k4 (Int.tmod x0_5 1000000000000) (wrap64 (t197 + 1)) t201 true)) else (pledgelaw23_ShareScales.j4 k4 (Int.tmod x0_5 1000000000000) (wrap64 (t197 + 1)) t201 true)) else (pledgelaw23_ShareScales.j4 k4 (Int.tmod x0_5 1000000000000) (wrap64 (t197 + 1)) t201 true)) else (pledgelaw23_ShareScales.j4 k4 (Int.tmod x0_5 1000000000000) (wrap64 (t197 + 1)) t201 true)) = some r := H
                          have A39 := Aside0.mk A390
                          clear A390
                          have HC40 := Aside0.mk H
                          clear H
                          obtain ⟨Ao41, co41, eo41⟩ := Kd.R_slice HO_18.out
                          subst eo41
                          go_upto_region 28 with (first | ((with_reducible refine gate_callee (f := 8) rfl ?_); refine goesL_ (some 105) rfl rfl Tryd.func8 (by kernel_rfl) rfl #[.int .i64 (Int.tmod x0_5 1000000000000), .slice Ao41 x18_4.length co41] rfl (by (try simp only [List.map_toArray, List.map_cons, List.map_nil]); first | done | rfl | (simp only [List.length_drop, List.length_take]; rfl)) ?_; (with_reducible refine (share_Split.calls (Int.tmod x0_5 1000000000000) _ _ x18_4 t201 t202 _ ?side1 ?side2 ?side3 A39.out).mono ?_); (case side1 => exact GlobOK.below HG.out (by repeat (first | (with_reducible first | exact HB.out | apply below_alloc | apply pw_below_drewN | apply below_drew1) | exact HB.out))); (case side2 => repeat (first | exact (Kd.R_reads' HO_18.out).2.2 | (with_reducible refine Kd.C_alloc ?_ _) | (with_reducible refine Kd.C_drewN ?_ _) | (with_reducible refine Kd.C_drew ?_))); (case side3 => exact (Kd.R_reads' HO_18.out).2.1); rintro e w42 ⟨v203, rfl, ho0, hb⟩; refine ⟨_, rfl, ?_⟩; have n0_ := Aside0.mk (Kd.R_elder' (by (with_reducible repeat (first | apply Kd.R_alloc | apply Kd.R_drewN | apply Kd.R_drew)); exact HO_12.out) (Kd.R_base ho0) hb); have n1_ := Aside0.mk (Kd.R_elder' (by (with_reducible repeat (first | apply Kd.R_alloc | apply Kd.R_drewN | apply Kd.R_drew)); exact HO_14.out) (Kd.R_base ho0) hb); have n2_ := Aside0.mk (Kd.R_elder' (by (with_reducible repeat (first | apply Kd.R_alloc | apply Kd.R_drewN | apply Kd.R_drew)); exact HO_16.out) (Kd.R_base ho0) hb); have n3_ := Aside0.mk (Kd.R_elder' (by (with_reducible repeat (first | apply Kd.R_alloc | apply Kd.R_drewN | apply Kd.R_drew)); exact HO_18.out) (Kd.R_base ho0) hb); have n4_ := Aside0.mk (Kd.R_lower (Kd.R_new' (Kd.R_new' (Kd.R_new' (Kd.R_new' ho0 (Kd.R_lt (by (with_reducible repeat (first | apply Kd.R_alloc | apply Kd.R_drewN | apply Kd.R_drew)); exact HO_12.out))) (Kd.R_lt (by (with_reducible repeat (first | apply Kd.R_alloc | apply Kd.R_drewN | apply Kd.R_drew)); exact HO_14.out))) (Kd.R_lt (by (with_reducible repeat (first | apply Kd.R_alloc | apply Kd.R_drewN | apply Kd.R_drew)); exact HO_16.out))) (Kd.R_lt (by (with_reducible repeat (first | apply Kd.R_alloc | apply Kd.R_drewN | apply Kd.R_drew)); exact HO_18.out))) (below_size (by repeat (first | (with_reducible first | exact HB.out | apply below_alloc | apply pw_below_drewN | apply below_drew1) | exact HB.out)))); have n5_ := Aside0.mk (below_step (by repeat (first | (with_reducible first | exact HB.out | apply below_alloc | apply pw_below_drewN | apply below_drew1) | exact HB.out)) hb); clear HO_12; clear HO_14; clear HO_16; clear HO_18; clear HB; have HO_12 := n0_; have HO_14 := n1_; have HO_16 := n2_; have HO_18 := n3_; have HO204 := n4_; have HB := n5_; clear n0_ n1_ n2_ n3_ n4_ n5_; (try clear hb); (try clear hb2); (try clear hk); (try clear hi); (try clear ho0); (try simp only [errW_none, errW_some])))
                          (try simp only [Act.put, List.setIfInBounds_toArray, List.set_cons_zero, List.set_cons_succ])
                          go_cut [139] (fun v139 wc => ∃ (kq : Nat) (x139_39 : Bool), v139 = .bool x139_39 ∧ Aside0 (pledgelaw23_ShareScales.j4 kq (Int.tmod x0_5 1000000000000) (wrap64 (t197 + 1)) t201 x139_39 = some r) ∧ Aside0 (kq ≤ k4) ∧ Aside0 (Kd.R (Kd.int .i64) 2 wc w.heap.size (fun _ => True) v203 t201) ∧ Aside0 (Below w.heap.size w wc))
                          case first =>
                            have H := HC40.out
                            clear HC40
                            rcases t183 with _ | q205
                            · have H1 : (if t187.isNone = true then (if t194.isNone = true then (if t202.isNone = true then ((pledgeref_SameLongs.f k4 t182 t186).bind fun t209 => (if t209 = true then (if (t193.length : Int) = 1 then (if 0 < (t193.length : Int) then (pledgelaw23_ShareScales.j4 k4 (Int.tmod x0_5 1000000000000) (wrap64 (t197 + 1)) t201 ((rd t193 0) != (Int.tmod x0_5 1000000000000))) else (none)) else (pledgelaw23_ShareScales.j4 k4 (Int.tmod x0_5 1000000000000) (wrap64 (t197 + 1)) t201 true)) else (pledgelaw23_ShareScales.j4 k4 (Int.tmod x0_5 1000000000000) (wrap64 (t197 + 1)) t201 true))) else (pledgelaw23_ShareScales.j4 k4 (Int.tmod x0_5 1000000000000) (wrap64 (t197 + 1)) t201 true)) else (pledgelaw23_ShareScales.j4 k4 (Int.tmod x0_5 1000000000000) (wrap64 (t197 + 1)) t201 true)) else (pledgelaw23_ShareScales.j4 k4 (Int.tmod x0_5 1000000000000) (wrap64 (t197 + 1)) t201 true)) = some r := by rw [if_pos (show (none : Option Int).isNone = true by rfl)] at H; exact H
                              clear H
                              have H := H1
                              clear H1
                              try simp only [errW_none, errW_some]
                              rcases t187 with _ | q206
                              · have H1 : (if t194.isNone = true then (if t202.isNone = true then ((pledgeref_SameLongs.f k4 t182 t186).bind fun t209 => (if t209 = true then (if (t193.length : Int) = 1 then (if 0 < (t193.length : Int) then (pledgelaw23_ShareScales.j4 k4 (Int.tmod x0_5 1000000000000) (wrap64 (t197 + 1)) t201 ((rd t193 0) != (Int.tmod x0_5 1000000000000))) else (none)) else (pledgelaw23_ShareScales.j4 k4 (Int.tmod x0_5 1000000000000) (wrap64 (t197 + 1)) t201 true)) else (pledgelaw23_ShareScales.j4 k4 (Int.tmod x0_5 1000000000000) (wrap64 (t197 + 1)) t201 true))) else (pledgelaw23_ShareScales.j4 k4 (Int.tmod x0_5 1000000000000) (wrap64 (t197 + 1)) t201 true)) else (pledgelaw23_ShareScales.j4 k4 (Int.tmod x0_5 1000000000000) (wrap64 (t197 + 1)) t201 true)) = some r := by rw [if_pos (show (none : Option Int).isNone = true by rfl)] at H; exact H
                                clear H
                                have H := H1
                                clear H1
                                try simp only [errW_none, errW_some]
                                rcases t194 with _ | q207
                                · have H1 : (if t202.isNone = true then ((pledgeref_SameLongs.f k4 t182 t186).bind fun t209 => (if t209 = true then (if (t193.length : Int) = 1 then (if 0 < (t193.length : Int) then (pledgelaw23_ShareScales.j4 k4 (Int.tmod x0_5 1000000000000) (wrap64 (t197 + 1)) t201 ((rd t193 0) != (Int.tmod x0_5 1000000000000))) else (none)) else (pledgelaw23_ShareScales.j4 k4 (Int.tmod x0_5 1000000000000) (wrap64 (t197 + 1)) t201 true)) else (pledgelaw23_ShareScales.j4 k4 (Int.tmod x0_5 1000000000000) (wrap64 (t197 + 1)) t201 true))) else (pledgelaw23_ShareScales.j4 k4 (Int.tmod x0_5 1000000000000) (wrap64 (t197 + 1)) t201 true)) = some r := by rw [if_pos (show (none : Option Int).isNone = true by rfl)] at H; exact H
                                  clear H
                                  have H := H1
                                  clear H1
                                  try simp only [errW_none, errW_some]
                                  rcases t202 with _ | q208
                                  · have H1 : ((pledgeref_SameLongs.f k4 t182 t186).bind fun t209 => (if t209 = true then (if (t193.length : Int) = 1 then (if 0 < (t193.length : Int) then (pledgelaw23_ShareScales.j4 k4 (Int.tmod x0_5 1000000000000) (wrap64 (t197 + 1)) t201 ((rd t193 0) != (Int.tmod x0_5 1000000000000))) else (none)) else (pledgelaw23_ShareScales.j4 k4 (Int.tmod x0_5 1000000000000) (wrap64 (t197 + 1)) t201 true)) else (pledgelaw23_ShareScales.j4 k4 (Int.tmod x0_5 1000000000000) (wrap64 (t197 + 1)) t201 true))) = some r := by rw [if_pos (show (none : Option Int).isNone = true by rfl)] at H; exact H
                                    clear H
                                    have H := H1
                                    clear H1
                                    try simp only [errW_none, errW_some]
                                    replace H := Option.bind_eq_some_iff.mp H
                                    obtain ⟨t209, A430, H⟩ := H
                                    replace H : (if t209 = true then (if (t193.length : Int) = 1 then (if 0 < (t193.length : Int) then (pledgelaw23_ShareScales.j4 k4 (Int.tmod x0_5 1000000000000) (wrap64 (t197 + 1)) t201 ((rd t193 0) != (Int.tmod x0_5 1000000000000))) else (none)) else (pledgelaw23_ShareScales.j4 k4 (Int.tmod x0_5 1000000000000) (wrap64 (t197 + 1)) t201 true)) else (pledgelaw23_ShareScales.j4 k4 (Int.tmod x0_5 1000000000000) (wrap64 (t197 + 1)) t201 true)) = some r := H
                                    have A43 := Aside0.mk A430
                                    clear A430
                                    by_cases c44 : t209 = true
                                    · subst c44
                                      have H1 : (if (t193.length : Int) = 1 then (if 0 < (t193.length : Int) then (pledgelaw23_ShareScales.j4 k4 (Int.tmod x0_5 1000000000000) (wrap64 (t197 + 1)) t201 ((rd t193 0) != (Int.tmod x0_5 1000000000000))) else (none)) else (pledgelaw23_ShareScales.j4 k4 (Int.tmod x0_5 1000000000000) (wrap64 (t197 + 1)) t201 true)) = some r := by rw [if_pos rfl] at H; exact H
                                      clear H
                                      have H := H1
                                      clear H1
                                      by_cases c45 : (t193.length : Int) = 1
                                      · rw [if_pos c45] at H
                                        have c45b0 : ((t193.length : Int) == 1) = true := beq_iff_eq.mpr c45
                                        have c45b1 : ((t193.length : Int) != 1) = false := bne_eq_false_iff_eq.mpr c45
                                        clear c45
                                        (first | rw [c45b0] | (simp only [i64_w, i32_w]; rw [c45b0]) | skip)
                                        by_cases c46 : 0 < (t193.length : Int)
                                        · rw [if_pos c46] at H
                                          have c46b0 : decide (0 < (t193.length : Int)) = true := decide_eq_true c46
                                          have c46b1 : decide (0 < t193.length) = true := decide_eq_true (by omega)
                                          clear c46
                                          have H' := Aside0.mk H
                                          clear H
                                          obtain ⟨Ao47, co47, eo47⟩ := Kd.R_slice HO_12.out
                                          subst eo47
                                          obtain ⟨Ao48, co48, eo48⟩ := Kd.R_slice HO_14.out
                                          subst eo48
                                          go_wp2_with (first | (go_at_call 12; (with_reducible refine (pledgeref_SameLongs.calls k4 _ _ t182 _ _ t186 true _ ?side1 ?side2 ?side3 ?side4 A43.out).mono ?_); (case side1 => repeat (first | exact (Kd.R_reads' HO_12.out).2.2 | (with_reducible refine Kd.C_alloc ?_ _) | (with_reducible refine Kd.C_drewN ?_ _) | (with_reducible refine Kd.C_drew ?_))); (case side2 => exact (Kd.R_reads' HO_12.out).2.1); (case side3 => repeat (first | exact (Kd.R_reads' HO_14.out).2.2 | (with_reducible refine Kd.C_alloc ?_ _) | (with_reducible refine Kd.C_drewN ?_ _) | (with_reducible refine Kd.C_drew ?_))); (case side4 => exact (Kd.R_reads' HO_14.out).2.1); rintro e w' ⟨rfl, ⟨nd, rfl⟩⟩; obtain ⟨Ao49, co49, eo49⟩ := Kd.R_slice HO_16.out; subst eo49; have p210 : 0 ≤ (0 : Int) := (by omega); have q210 : 0 < (t193.length : Int) := of_decide_eq_true (by first | (with_reducible assumption) | assumption); obtain ⟨ad210, e210, hx210_0⟩ := Kd.at_int (Kd.R_reads' HO_16.out).2.2 0 p210 q210; cases e210; have qi210 : (0 < t193.length) = True := eq_true (by omega); (try rw [show ((0 : Int)).toNat = 0 from rfl] at hx210_0); (try rw [Addr.add_zero'] at hx210_0); replace p210 := eq_true p210; replace q210 := eq_true q210))
                                          go_meet
                                          case rel => exact ⟨_, (((rd t193 0) != (Int.tmod x0_5 1000000000000))), (by first | rfl | (simp; done) | (simp [*]; done) | (simp [wrap64]; done) | (simp [wrap64]; omega)), H', ⟨by have := HJ5.out; have := HJ8.out; have := HK3.out; have := HK4.out; first | omega | exact Nat.le_refl _⟩, ⟨by (with_reducible repeat (first | apply Kd.R_alloc | apply Kd.R_drewN | apply Kd.R_drew)); exact Kd.R_mono HO204.out (fun _ hk => trivial)⟩, ⟨by repeat (first | (with_reducible first | exact HB.out | apply below_alloc | apply pw_below_drewN | apply below_drew1) | exact HB.out)⟩⟩
                                        · rw [if_neg c46] at H
                                          exact absurd H (by simp)
                                      · rw [if_neg c45] at H
                                        have c45b0 : ((t193.length : Int) == 1) = false := beq_eq_false_iff_ne.mpr c45
                                        have c45b1 : ((t193.length : Int) != 1) = true := bne_iff_ne.mpr c45
                                        (first | rw [c45b0] | (simp only [i64_w, i32_w]; rw [c45b0]) | skip)
                                        have H' := Aside0.mk H
                                        clear H
                                        obtain ⟨Ao50, co50, eo50⟩ := Kd.R_slice HO_12.out
                                        subst eo50
                                        obtain ⟨Ao51, co51, eo51⟩ := Kd.R_slice HO_14.out
                                        subst eo51
                                        go_wp2_with (first | (go_at_call 12; (with_reducible refine (pledgeref_SameLongs.calls k4 _ _ t182 _ _ t186 true _ ?side1 ?side2 ?side3 ?side4 A43.out).mono ?_); (case side1 => repeat (first | exact (Kd.R_reads' HO_12.out).2.2 | (with_reducible refine Kd.C_alloc ?_ _) | (with_reducible refine Kd.C_drewN ?_ _) | (with_reducible refine Kd.C_drew ?_))); (case side2 => exact (Kd.R_reads' HO_12.out).2.1); (case side3 => repeat (first | exact (Kd.R_reads' HO_14.out).2.2 | (with_reducible refine Kd.C_alloc ?_ _) | (with_reducible refine Kd.C_drewN ?_ _) | (with_reducible refine Kd.C_drew ?_))); (case side4 => exact (Kd.R_reads' HO_14.out).2.1); rintro e w' ⟨rfl, ⟨nd, rfl⟩⟩; obtain ⟨Ao52, co52, eo52⟩ := Kd.R_slice HO_16.out; subst eo52))
                                        go_meet
                                        case rel => exact ⟨_, (true), (by first | rfl | (simp; done) | (simp [*]; done) | (simp [wrap64]; done) | (simp [wrap64]; omega)), H', ⟨by have := HJ5.out; have := HJ8.out; have := HK3.out; have := HK4.out; first | omega | exact Nat.le_refl _⟩, ⟨by (with_reducible repeat (first | apply Kd.R_alloc | apply Kd.R_drewN | apply Kd.R_drew)); exact Kd.R_mono HO204.out (fun _ hk => trivial)⟩, ⟨by repeat (first | (with_reducible first | exact HB.out | apply below_alloc | apply pw_below_drewN | apply below_drew1) | exact HB.out)⟩⟩
                                    · replace c44 := Bool.eq_false_iff.mpr c44
                                      subst c44
                                      have H1 : (pledgelaw23_ShareScales.j4 k4 (Int.tmod x0_5 1000000000000) (wrap64 (t197 + 1)) t201 true) = some r := by rw [if_neg (show ¬ (false = true) by decide)] at H; exact H
                                      clear H
                                      have H := H1
                                      clear H1
                                      have H' := Aside0.mk H
                                      clear H
                                      obtain ⟨Ao53, co53, eo53⟩ := Kd.R_slice HO_12.out
                                      subst eo53
                                      obtain ⟨Ao54, co54, eo54⟩ := Kd.R_slice HO_14.out
                                      subst eo54
                                      go_wp2_with (first | (go_at_call 12; (with_reducible refine (pledgeref_SameLongs.calls k4 _ _ t182 _ _ t186 false _ ?side1 ?side2 ?side3 ?side4 A43.out).mono ?_); (case side1 => repeat (first | exact (Kd.R_reads' HO_12.out).2.2 | (with_reducible refine Kd.C_alloc ?_ _) | (with_reducible refine Kd.C_drewN ?_ _) | (with_reducible refine Kd.C_drew ?_))); (case side2 => exact (Kd.R_reads' HO_12.out).2.1); (case side3 => repeat (first | exact (Kd.R_reads' HO_14.out).2.2 | (with_reducible refine Kd.C_alloc ?_ _) | (with_reducible refine Kd.C_drewN ?_ _) | (with_reducible refine Kd.C_drew ?_))); (case side4 => exact (Kd.R_reads' HO_14.out).2.1); rintro e w' ⟨rfl, ⟨nd, rfl⟩⟩))
                                      go_meet
                                      case rel => exact ⟨_, (true), (by first | rfl | (simp; done) | (simp [*]; done) | (simp [wrap64]; done) | (simp [wrap64]; omega)), H', ⟨by have := HJ5.out; have := HJ8.out; have := HK3.out; have := HK4.out; first | omega | exact Nat.le_refl _⟩, ⟨by (with_reducible repeat (first | apply Kd.R_alloc | apply Kd.R_drewN | apply Kd.R_drew)); exact Kd.R_mono HO204.out (fun _ hk => trivial)⟩, ⟨by repeat (first | (with_reducible first | exact HB.out | apply below_alloc | apply pw_below_drewN | apply below_drew1) | exact HB.out)⟩⟩
                                  · have H1 : (pledgelaw23_ShareScales.j4 k4 (Int.tmod x0_5 1000000000000) (wrap64 (t197 + 1)) t201 true) = some r := by rw [if_neg (show ¬ (some q208).isNone = true by simp)] at H; exact H
                                    clear H
                                    have H := H1
                                    clear H1
                                    try simp only [errW_none, errW_some]
                                    have H' := Aside0.mk H
                                    clear H
                                    go_wp2
                                    go_meet
                                    case rel => exact ⟨_, (true), (by first | rfl | (simp; done) | (simp [*]; done) | (simp [wrap64]; done) | (simp [wrap64]; omega)), H', ⟨by have := HJ5.out; have := HJ8.out; have := HK3.out; have := HK4.out; first | omega | exact Nat.le_refl _⟩, ⟨by (with_reducible repeat (first | apply Kd.R_alloc | apply Kd.R_drewN | apply Kd.R_drew)); exact Kd.R_mono HO204.out (fun _ hk => trivial)⟩, ⟨by repeat (first | (with_reducible first | exact HB.out | apply below_alloc | apply pw_below_drewN | apply below_drew1) | exact HB.out)⟩⟩
                                · have H1 : (pledgelaw23_ShareScales.j4 k4 (Int.tmod x0_5 1000000000000) (wrap64 (t197 + 1)) t201 true) = some r := by rw [if_neg (show ¬ (some q207).isNone = true by simp)] at H; exact H
                                  clear H
                                  have H := H1
                                  clear H1
                                  try simp only [errW_none, errW_some]
                                  have H' := Aside0.mk H
                                  clear H
                                  go_wp2
                                  go_meet
                                  case rel => exact ⟨_, (true), (by first | rfl | (simp; done) | (simp [*]; done) | (simp [wrap64]; done) | (simp [wrap64]; omega)), H', ⟨by have := HJ5.out; have := HJ8.out; have := HK3.out; have := HK4.out; first | omega | exact Nat.le_refl _⟩, ⟨by (with_reducible repeat (first | apply Kd.R_alloc | apply Kd.R_drewN | apply Kd.R_drew)); exact Kd.R_mono HO204.out (fun _ hk => trivial)⟩, ⟨by repeat (first | (with_reducible first | exact HB.out | apply below_alloc | apply pw_below_drewN | apply below_drew1) | exact HB.out)⟩⟩
                              · have H1 : (pledgelaw23_ShareScales.j4 k4 (Int.tmod x0_5 1000000000000) (wrap64 (t197 + 1)) t201 true) = some r := by rw [if_neg (show ¬ (some q206).isNone = true by simp)] at H; exact H
                                clear H
                                have H := H1
                                clear H1
                                try simp only [errW_none, errW_some]
                                have H' := Aside0.mk H
                                clear H
                                go_wp2
                                go_meet
                                case rel => exact ⟨_, (true), (by first | rfl | (simp; done) | (simp [*]; done) | (simp [wrap64]; done) | (simp [wrap64]; omega)), H', ⟨by have := HJ5.out; have := HJ8.out; have := HK3.out; have := HK4.out; first | omega | exact Nat.le_refl _⟩, ⟨by (with_reducible repeat (first | apply Kd.R_alloc | apply Kd.R_drewN | apply Kd.R_drew)); exact Kd.R_mono HO204.out (fun _ hk => trivial)⟩, ⟨by repeat (first | (with_reducible first | exact HB.out | apply below_alloc | apply pw_below_drewN | apply below_drew1) | exact HB.out)⟩⟩
                            · have H1 : (pledgelaw23_ShareScales.j4 k4 (Int.tmod x0_5 1000000000000) (wrap64 (t197 + 1)) t201 true) = some r := by rw [if_neg (show ¬ (some q205).isNone = true by simp)] at H; exact H
                              clear H
                              have H := H1
                              clear H1
                              try simp only [errW_none, errW_some]
                              have H' := Aside0.mk H
                              clear H
                              go_wp2
                              go_meet
                              case rel => exact ⟨_, (true), (by first | rfl | (simp; done) | (simp [*]; done) | (simp [wrap64]; done) | (simp [wrap64]; omega)), H', ⟨by have := HJ5.out; have := HJ8.out; have := HK3.out; have := HK4.out; first | omega | exact Nat.le_refl _⟩, ⟨by (with_reducible repeat (first | apply Kd.R_alloc | apply Kd.R_drewN | apply Kd.R_drew)); exact Kd.R_mono HO204.out (fun _ hk => trivial)⟩, ⟨by repeat (first | (with_reducible first | exact HB.out | apply below_alloc | apply pw_below_drewN | apply below_drew1) | exact HB.out)⟩⟩
                          case rest =>
                            clear HC40
                            try clear c1
                            try clear p1
                            try clear q1
                            try clear hx1
                            try clear c2
                            try clear p2
                            try clear q2
                            try clear hx2
                            try clear qi2
                            try clear c3
                            try clear c4
                            try clear c5
                            try clear p6
                            try clear c7
                            try clear c8
                            try clear c8b0
                            try clear c10
                            try clear c10b0
                            try clear c10b1
                            try clear c11
                            try clear c11b0
                            try clear c11b1
                            try clear c11b2
                            try clear c12
                            try clear c13
                            try clear c13b0
                            try clear c14
                            try clear c14b0
                            try clear c15
                            try clear c15b0
                            try clear c16
                            try clear p16
                            try clear q16
                            try clear hx16
                            try clear c17
                            try clear c20
                            try clear q20
                            try clear c21
                            try clear p21
                            try clear q21
                            try clear hx21
                            try clear qi21
                            try clear c36
                            try clear c36b0
                            try clear c37
                            try clear c44
                            try clear c45
                            try clear c45b0
                            try clear c45b1
                            try clear c46
                            try clear c46b0
                            try clear c46b1
                            try clear hx169_0
                            try clear hx210_0
                            try clear p1
                            try clear p16
                            try clear p169
                            try clear p2
                            try clear p210
                            try clear p6
                            try clear q1
                            try clear q16
                            try clear q169
                            try clear q205
                            try clear q206
                            try clear q207
                            try clear q208
                            try clear q210
                            obtain ⟨kq, x139_39, rfl, HA, HJ39, HO_20, HB⟩ := hcut
                            cases kq with
                            | zero => exact absurd HA.out (by simp [pledgelaw23_ShareScales.j4])
                            | succ kj39 =>
                              have H := HA.out
                              clear HA
                              simp only [pledgelaw23_ShareScales.j4] at H
                              by_cases c55 : x139_39 = true
                              · subst c55
                                have H1 : (some false) = some r := by rw [if_pos rfl] at H; exact H
                                clear H
                                have H := H1
                                clear H1
                                obtain rfl := Option.some.inj H
                                go_wp2
                                go_ret
                                exact ⟨by first | rfl | (simp [errW_none, errW_some] <;> rfl) | (exfalso; simp_all; done) | (simp [*, errW_none, errW_some] <;> rfl), by repeat (first | (with_reducible first | exact HB.out | apply below_alloc | apply pw_below_drewN | apply below_drew1) | exact HB.out)⟩
                              · replace c55 := Bool.eq_false_iff.mpr c55
                                subst c55
                                have H1 : (pledgelaw23_ShareScales.l2 kj39 (Int.tmod x0_5 1000000000000) (wrap64 (t197 + 1)) t201 0) = some r := by rw [if_neg (show ¬ (false = true) by decide)] at H; exact H
                                clear H
                                have H := H1
                                clear H1
                                have H' := Aside0.mk H
                                clear H
                                go_wp2
                                go_loopg [22] kj39 (fun kq v22 w' => ∃ (x22_6 : Int), v22 = .int .i64 x22_6 ∧ Aside0 (pledgelaw23_ShareScales.l2 kq (Int.tmod x0_5 1000000000000) (wrap64 (t197 + 1)) t201 x22_6 = some r) ∧ Aside0 (kq ≤ kj39) ∧ Aside0 (Kd.R (Kd.int .i64) 2 w' w.heap.size (fun _ => True) v203 t201) ∧ Aside0 (Below w.heap.size w w'))
                                case atStart => exact ⟨(0), (by first | rfl | (simp; done) | (simp [*]; done) | (simp [wrap64]; done) | (simp [wrap64]; omega)), H', ⟨Nat.le_refl _⟩, ⟨by (with_reducible repeat (first | apply Kd.R_alloc | apply Kd.R_drewN | apply Kd.R_drew)); exact HO_20.out⟩, ⟨by repeat (first | (with_reducible first | exact HB.out | apply below_alloc | apply pw_below_drewN | apply below_drew1) | exact HB.out)⟩⟩
                                case round =>
                                  clear H'
                                  try clear c1
                                  try clear p1
                                  try clear q1
                                  try clear hx1
                                  try clear c2
                                  try clear p2
                                  try clear q2
                                  try clear hx2
                                  try clear qi2
                                  try clear c3
                                  try clear c4
                                  try clear c5
                                  try clear p6
                                  try clear c7
                                  try clear c8
                                  try clear c8b0
                                  try clear c10
                                  try clear c10b0
                                  try clear c10b1
                                  try clear c11
                                  try clear c11b0
                                  try clear c11b1
                                  try clear c11b2
                                  try clear c12
                                  try clear c13
                                  try clear c13b0
                                  try clear c14
                                  try clear c14b0
                                  try clear c15
                                  try clear c15b0
                                  try clear c16
                                  try clear p16
                                  try clear q16
                                  try clear hx16
                                  try clear c17
                                  try clear c20
                                  try clear q20
                                  try clear c21
                                  try clear p21
                                  try clear q21
                                  try clear hx21
                                  try clear qi21
                                  try clear c36
                                  try clear c36b0
                                  try clear c37
                                  try clear c44
                                  try clear c45
                                  try clear c45b0
                                  try clear c45b1
                                  try clear c46
                                  try clear c46b0
                                  try clear c46b1
                                  try clear c55
                                  try clear hx169_0
                                  try clear hx210_0
                                  try clear p1
                                  try clear p16
                                  try clear p169
                                  try clear p2
                                  try clear p21
                                  try clear p210
                                  try clear p6
                                  try clear q1
                                  try clear q16
                                  try clear q169
                                  try clear q2
                                  try clear q20
                                  try clear q205
                                  try clear q206
                                  try clear q207
                                  try clear q208
                                  try clear q21
                                  try clear q210
                                  obtain ⟨x22_6, rfl, HA, HK6, HO_20, HB⟩ := hrel
                                  cases gk with
                                  | zero => exact absurd HA.out (by simp [pledgelaw23_ShareScales.l2])
                                  | succ k6 =>
                                    have H := HA.out
                                    clear HA
                                    simp only [pledgelaw23_ShareScales.l2] at H
                                    by_cases c56 : x22_6 < (wrap64 (t197 + 1))
                                    · rw [if_pos c56] at H
                                      have c56b0 : decide (x22_6 < (wrap64 (t197 + 1))) = true := decide_eq_true c56
                                      clear c56
                                      by_cases c57 : (wrap64 (t197 + 1)) = 0
                                      · rw [if_pos c57] at H
                                        exact absurd H (by simp)
                                      · rw [if_neg c57] at H
                                        have c57b0 : ((wrap64 (t197 + 1)) == 0) = false := beq_eq_false_iff_ne.mpr c57
                                        have c57b1 : ((wrap64 (t197 + 1)) != 0) = true := bne_iff_ne.mpr c57
                                        by_cases c58 : x22_6 < (Int.tmod (Int.tmod x0_5 1000000000000) (wrap64 (t197 + 1)))
                                        · rw [if_pos c58] at H
                                          have c58b0 : decide (x22_6 < (Int.tmod (Int.tmod x0_5 1000000000000) (wrap64 (t197 + 1)))) = true := decide_eq_true c58
                                          clear c58
                                          by_cases c59 : 0 ≤ x22_6
                                          · rw [if_pos c59] at H
                                            have c59b0 : decide (0 ≤ x22_6) = true := decide_eq_true c59
                                            clear c59
                                            by_cases c60 : x22_6 < (t201.length : Int)
                                            · rw [if_pos c60] at H
                                              have c60b0 : decide (x22_6 < (t201.length : Int)) = true := decide_eq_true c60
                                              clear c60
                                              by_cases c61 : (rd t201 x22_6) = (wrap64 ((wrap64 (Int.tdiv (Int.tmod x0_5 1000000000000) (wrap64 (t197 + 1)))) + 1))
                                              · rw [if_pos c61] at H
                                                have c61b0 : ((rd t201 x22_6) == (wrap64 ((wrap64 (Int.tdiv (Int.tmod x0_5 1000000000000) (wrap64 (t197 + 1)))) + 1))) = true := beq_iff_eq.mpr c61
                                                have c61b1 : ((rd t201 x22_6) != (wrap64 ((wrap64 (Int.tdiv (Int.tmod x0_5 1000000000000) (wrap64 (t197 + 1)))) + 1))) = false := bne_eq_false_iff_eq.mpr c61
                                                clear c61
                                                have H' := Aside0.mk H
                                                clear H
                                                obtain ⟨Ao62, co62, eo62⟩ := Kd.R_slice HO_20.out
                                                subst eo62
                                                have p211 : 0 ≤ (x22_6 : Int) := of_decide_eq_true (by first | (with_reducible assumption) | assumption)
                                                have q211 : x22_6 < (t201.length : Int) := of_decide_eq_true (by first | (with_reducible assumption) | assumption)
                                                obtain ⟨ad211, e211, hx211_0⟩ := Kd.at_int (Kd.R_reads' HO_20.out).2.2 x22_6 p211 q211
                                                cases e211
                                                replace p211 := eq_true p211
                                                replace q211 := eq_true q211
                                                go_wp2
                                                go_roundg k6
                                                case measure => have := HJ5.out; have := HJ8.out; have := HK3.out; have := HK4.out; have := HJ39.out; have := HK6.out; omega
                                                case rel => exact ⟨(wrap64 (x22_6 + 1)), (by first | rfl | (simp; done) | (simp [*]; done) | (simp [wrap64]; done) | (simp [wrap64]; omega)), H', ⟨by have := HJ5.out; have := HJ8.out; have := HK3.out; have := HK4.out; have := HJ39.out; have := HK6.out; omega⟩, ⟨by (with_reducible repeat (first | apply Kd.R_alloc | apply Kd.R_drewN | apply Kd.R_drew)); exact HO_20.out⟩, ⟨by repeat (first | (with_reducible first | exact HB.out | apply below_alloc | apply pw_below_drewN | apply below_drew1) | exact HB.out)⟩⟩
                                              · rw [if_neg c61] at H
                                                have c61b0 : ((rd t201 x22_6) == (wrap64 ((wrap64 (Int.tdiv (Int.tmod x0_5 1000000000000) (wrap64 (t197 + 1)))) + 1))) = false := beq_eq_false_iff_ne.mpr c61
                                                have c61b1 : ((rd t201 x22_6) != (wrap64 ((wrap64 (Int.tdiv (Int.tmod x0_5 1000000000000) (wrap64 (t197 + 1)))) + 1))) = true := bne_iff_ne.mpr c61
                                                obtain rfl := Option.some.inj H
                                                obtain ⟨Ao63, co63, eo63⟩ := Kd.R_slice HO_20.out
                                                subst eo63
                                                have p211 : 0 ≤ (x22_6 : Int) := of_decide_eq_true (by first | (with_reducible assumption) | assumption)
                                                have q211 : x22_6 < (t201.length : Int) := of_decide_eq_true (by first | (with_reducible assumption) | assumption)
                                                obtain ⟨ad211, e211, hx211_0⟩ := Kd.at_int (Kd.R_reads' HO_20.out).2.2 x22_6 p211 q211
                                                cases e211
                                                replace p211 := eq_true p211
                                                replace q211 := eq_true q211
                                                go_wp2
                                                go_ret
                                                exact ⟨by first | rfl | (simp [errW_none, errW_some] <;> rfl) | (exfalso; simp_all; done) | (simp [*, errW_none, errW_some] <;> rfl), by repeat (first | (with_reducible first | exact HB.out | apply below_alloc | apply pw_below_drewN | apply below_drew1) | exact HB.out)⟩
                                            · rw [if_neg c60] at H
                                              exact absurd H (by simp)
                                          · rw [if_neg c59] at H
                                            exact absurd H (by simp)
                                        · rw [if_neg c58] at H
                                          have c58b0 : decide (x22_6 < (Int.tmod (Int.tmod x0_5 1000000000000) (wrap64 (t197 + 1)))) = false := decide_eq_false c58
                                          clear c58
                                          by_cases c64 : 0 ≤ x22_6
                                          · rw [if_pos c64] at H
                                            have c64b0 : decide (0 ≤ x22_6) = true := decide_eq_true c64
                                            clear c64
                                            by_cases c65 : x22_6 < (t201.length : Int)
                                            · rw [if_pos c65] at H
                                              have c65b0 : decide (x22_6 < (t201.length : Int)) = true := decide_eq_true c65
                                              clear c65
                                              by_cases c66 : (rd t201 x22_6) = (wrap64 (Int.tdiv (Int.tmod x0_5 1000000000000) (wrap64 (t197 + 1))))
                                              · rw [if_pos c66] at H
                                                have c66b0 : ((rd t201 x22_6) == (wrap64 (Int.tdiv (Int.tmod x0_5 1000000000000) (wrap64 (t197 + 1))))) = true := beq_iff_eq.mpr c66
                                                have c66b1 : ((rd t201 x22_6) != (wrap64 (Int.tdiv (Int.tmod x0_5 1000000000000) (wrap64 (t197 + 1))))) = false := bne_eq_false_iff_eq.mpr c66
                                                clear c66
                                                have H' := Aside0.mk H
                                                clear H
                                                obtain ⟨Ao67, co67, eo67⟩ := Kd.R_slice HO_20.out
                                                subst eo67
                                                have p212 : 0 ≤ (x22_6 : Int) := of_decide_eq_true (by first | (with_reducible assumption) | assumption)
                                                have q212 : x22_6 < (t201.length : Int) := of_decide_eq_true (by first | (with_reducible assumption) | assumption)
                                                obtain ⟨ad212, e212, hx212_0⟩ := Kd.at_int (Kd.R_reads' HO_20.out).2.2 x22_6 p212 q212
                                                cases e212
                                                replace p212 := eq_true p212
                                                replace q212 := eq_true q212
                                                go_wp2
                                                go_roundg k6
                                                case measure => have := HJ5.out; have := HJ8.out; have := HK3.out; have := HK4.out; have := HJ39.out; have := HK6.out; omega
                                                case rel => exact ⟨(wrap64 (x22_6 + 1)), (by first | rfl | (simp; done) | (simp [*]; done) | (simp [wrap64]; done) | (simp [wrap64]; omega)), H', ⟨by have := HJ5.out; have := HJ8.out; have := HK3.out; have := HK4.out; have := HJ39.out; have := HK6.out; omega⟩, ⟨by (with_reducible repeat (first | apply Kd.R_alloc | apply Kd.R_drewN | apply Kd.R_drew)); exact HO_20.out⟩, ⟨by repeat (first | (with_reducible first | exact HB.out | apply below_alloc | apply pw_below_drewN | apply below_drew1) | exact HB.out)⟩⟩
                                              · rw [if_neg c66] at H
                                                have c66b0 : ((rd t201 x22_6) == (wrap64 (Int.tdiv (Int.tmod x0_5 1000000000000) (wrap64 (t197 + 1))))) = false := beq_eq_false_iff_ne.mpr c66
                                                have c66b1 : ((rd t201 x22_6) != (wrap64 (Int.tdiv (Int.tmod x0_5 1000000000000) (wrap64 (t197 + 1))))) = true := bne_iff_ne.mpr c66
                                                obtain rfl := Option.some.inj H
                                                obtain ⟨Ao68, co68, eo68⟩ := Kd.R_slice HO_20.out
                                                subst eo68
                                                have p212 : 0 ≤ (x22_6 : Int) := of_decide_eq_true (by first | (with_reducible assumption) | assumption)
                                                have q212 : x22_6 < (t201.length : Int) := of_decide_eq_true (by first | (with_reducible assumption) | assumption)
                                                obtain ⟨ad212, e212, hx212_0⟩ := Kd.at_int (Kd.R_reads' HO_20.out).2.2 x22_6 p212 q212
                                                cases e212
                                                replace p212 := eq_true p212
                                                replace q212 := eq_true q212
                                                go_wp2
                                                go_ret
                                                exact ⟨by first | rfl | (simp [errW_none, errW_some] <;> rfl) | (exfalso; simp_all; done) | (simp [*, errW_none, errW_some] <;> rfl), by repeat (first | (with_reducible first | exact HB.out | apply below_alloc | apply pw_below_drewN | apply below_drew1) | exact HB.out)⟩
                                            · rw [if_neg c65] at H
                                              exact absurd H (by simp)
                                          · rw [if_neg c64] at H
                                            exact absurd H (by simp)
                                    · rw [if_neg c56] at H
                                      have c56b0 : decide (x22_6 < (wrap64 (t197 + 1))) = false := decide_eq_false c56
                                      clear c56
                                      obtain rfl := Option.some.inj H
                                      go_wp2
                                      go_ret
                                      exact ⟨by first | rfl | (simp [errW_none, errW_some] <;> rfl) | (exfalso; simp_all; done) | (simp [*, errW_none, errW_some] <;> rfl), by repeat (first | (with_reducible first | exact HB.out | apply below_alloc | apply pw_below_drewN | apply below_drew1) | exact HB.out)⟩
  · replace c5 := Bool.eq_false_iff.mpr c5
    subst c5
    have H1 : (some false) = some r := by rw [if_neg (show ¬ (false = true) by decide)] at H; exact H
    clear H
    have H := H1
    clear H1
    obtain rfl := Option.some.inj H
    go_enter Tryd.func5, Tryd.ntmps5
    go_wp2_with (first | ((with_reducible refine gate_callee (f := 7) rfl ?_); refine goesL_ (some 24) rfl rfl Tryd.func7 (by kernel_rfl) rfl #[] rfl (by (try simp only [List.map_toArray, List.map_cons, List.map_nil]); first | done | rfl | (simp only [List.length_drop, List.length_take]; rfl)) ?_; (with_reducible refine (pledgelaw23_first.calls k  false _ ?side1 A4.out).mono ?_); (case side1 => exact GlobOK.below HG.out (by repeat (first | (with_reducible first | exact HB.out | apply below_alloc | apply pw_below_drewN | apply below_drew1) | exact HB.out))); rintro e w69 ⟨rfl, hb⟩; refine ⟨_, rfl, ?_⟩; have n0_ := Aside0.mk (below_step (by repeat (first | (with_reducible first | exact HB.out | apply below_alloc | apply pw_below_drewN | apply below_drew1) | exact HB.out)) hb); clear HB; have HB := n0_; clear n0_; (try clear hb); (try clear hb2); (try clear hk); (try clear hi)))
    go_ret
    exact ⟨by first | rfl | (simp [errW_none, errW_some] <;> rfl) | (exfalso; simp_all; done) | (simp [*, errW_none, errW_some] <;> rfl), by repeat (first | (with_reducible first | exact HB.out | apply below_alloc | apply pw_below_drewN | apply below_drew1) | exact HB.out)⟩

/-- The pure statement of pledgelaw23_ShareScales: numbers and lists alone. -/
def pledgelaw23_ShareScales.Pure : Prop := ∀ (a0 : Int) (l1 : List Int) (a2 : Int), Rng .i64 a0 → l1.length * 8 ≤ 140737488351232 → (l1.length ≤ maxLen ∧ ∀ x ∈ l1, Rng .i64 x) → Rng .i64 a2 → ∃ k, pledgelaw23_ShareScales.f k a0 l1 a2 = some true

end Go.Proofs.YtdmhmncplcokiaaDoor.EShareScales
