/- The functions that the law comes to, as plain functions, and for each a proof that the Go code comes to just these answers. Written by a program of this claim. Conditions: each theorem bears its own. -/
import Derived.Test.YteooecifecaikaaDoorECertSaysx0
import Derived.Test.YteooecifecaikaaDoorECertSaysx10
namespace Go.Proofs.YteooecifecaikaaDoor.ECertSays
open Go.RowKit Go.Proofs.YteooecifecaikaaDoorW.PrintWords Go.Proofs.YteooecifecaikaaDoorW.PrintLast Go.Proofs.YteooecifecaikaaDoorW.PrintMore Go.Proofs.YteooecifecaikaaDoorW.PrintOpen
attribute [local go_sem] max2_int min2_int max_two min_two max_three min_three max_four min_four   -- for this text's walks alone
set_option linter.unusedVariables false
set_option linter.unusedSimpArgs false

/-! ### pledgeref1_Cmp: function 56 -/
mutual
def pledgeref1_Cmp.j0 : Nat → Int → Int → Int → Int → Int → Int → Bool → Option (Int)
 | 0, _, _, _, _, _, _, _ => none
 | k + 1, x2, x3, x9, x10, x11, x12, x13 => if ((decide (x2 < 0)) != (decide (x3 < 0))) = true then (if x11 = 0 then (pledgeref1_Cmp.j1 k x9 x10 x11 x12 x13 (x12 != 0)) else (pledgeref1_Cmp.j1 k x9 x10 x11 x12 x13 true)) else (pledgeref1_Cmp.j1 k x9 x10 x11 x12 x13 false)
def pledgeref1_Cmp.j1 : Nat → Int → Int → Int → Int → Bool → Bool → Option (Int)
 | 0, _, _, _, _, _, _ => none
 | k + 1, x9, x10, x11, x12, x13, x14 => if (x13 != x14) = true then (if x13 = true then (some (-1)) else (some 1)) else (if x9 < x11 then (pledgeref1_Cmp.j2 k x9 x10 x11 x12 x13 0 true) else (if x9 = x11 then (pledgeref1_Cmp.j2 k x9 x10 x11 x12 x13 0 (decide (x10 < x12))) else (pledgeref1_Cmp.j2 k x9 x10 x11 x12 x13 0 false)))
def pledgeref1_Cmp.j2 : Nat → Int → Int → Int → Int → Bool → Int → Bool → Option (Int)
 | 0, _, _, _, _, _, _, _ => none
 | k + 1, x9, x10, x11, x12, x13, x15, x74 => if x74 = true then (if x13 = true then (some (-(-1))) else (some (-1))) else (if x9 = x11 then (pledgeref1_Cmp.j3 k x13 x15 (x10 != x12)) else (pledgeref1_Cmp.j3 k x13 x15 true))
def pledgeref1_Cmp.j3 : Nat → Bool → Int → Bool → Option (Int)
 | 0, _, _, _ => none
 | k + 1, x13, x15, x82 => if x82 = true then (if x13 = true then (some (-1)) else (some 1)) else (if x13 = true then (some (wrap64 (-x15))) else (some x15))
end
def pledgeref1_Cmp.f (k : Nat) (a0 : Int) (a1 : Int) (a2 : Int) (a3 : Int) : Option (Int) := (pledgeref1_size.f a0).bind fun t282 => ((pledgeref1_size.f a1).bind fun t283 => ((pledgeref1_Wide.f t282 t283).bind fun bt284 => ((pledgeref1_size.f a2).bind fun t286 => ((pledgeref1_size.f a3).bind fun t287 => ((pledgeref1_Wide.f t286 t287).bind fun bt288 => (if ((decide (a0 < 0)) != (decide (a1 < 0))) = true then (if bt284.1 = 0 then (pledgeref1_Cmp.j0 k a2 a3 bt284.1 bt284.2 bt288.1 bt288.2 (bt284.2 != 0)) else (pledgeref1_Cmp.j0 k a2 a3 bt284.1 bt284.2 bt288.1 bt288.2 true)) else (pledgeref1_Cmp.j0 k a2 a3 bt284.1 bt284.2 bt288.1 bt288.2 false)))))))
theorem pledgeref1_Cmp.mono_l : ∀ k, (∀ y0 y1 y2 y3 y4 y5 y6, LeO (pledgeref1_Cmp.j0 k y0 y1 y2 y3 y4 y5 y6) (pledgeref1_Cmp.j0 (k + 1) y0 y1 y2 y3 y4 y5 y6)) ∧ (∀ y0 y1 y2 y3 y4 y5, LeO (pledgeref1_Cmp.j1 k y0 y1 y2 y3 y4 y5) (pledgeref1_Cmp.j1 (k + 1) y0 y1 y2 y3 y4 y5)) ∧ (∀ y0 y1 y2 y3 y4 y5 y6, LeO (pledgeref1_Cmp.j2 k y0 y1 y2 y3 y4 y5 y6) (pledgeref1_Cmp.j2 (k + 1) y0 y1 y2 y3 y4 y5 y6)) ∧ (∀ y0 y1 y2, LeO (pledgeref1_Cmp.j3 k y0 y1 y2) (pledgeref1_Cmp.j3 (k + 1) y0 y1 y2))
 | 0 => ⟨fun _ _ _ _ _ _ _ r h => by simp [pledgeref1_Cmp.j0] at h, fun _ _ _ _ _ _ r h => by simp [pledgeref1_Cmp.j1] at h, fun _ _ _ _ _ _ _ r h => by simp [pledgeref1_Cmp.j2] at h, fun _ _ _ r h => by simp [pledgeref1_Cmp.j3] at h⟩
 | k + 1 => by
  obtain ⟨ih0, ih1, ih2, ih3⟩ := pledgeref1_Cmp.mono_l k; refine ⟨?_, ?_, ?_, ?_⟩
  ·
   intro y0 y1 y2 y3 y4 y5 y6; unfold pledgeref1_Cmp.j0
   repeat' first
   | (with_reducible exact ih0 _ _ _ _ _ _ _)
   | (with_reducible exact ih1 _ _ _ _ _ _)
   | (with_reducible exact ih2 _ _ _ _ _ _ _)
   | (with_reducible exact ih3 _ _ _)
   | (with_reducible exact LeO.refl _)
   | (with_reducible exact LeO.none _)
   | (with_reducible refine LeO.ite ?_ ?_)
   | (with_reducible refine LeO.bind ?_ (fun _ => ?_))
   | exact ih0 _ _ _ _ _ _ _
   | exact ih1 _ _ _ _ _ _
   | exact ih2 _ _ _ _ _ _ _
   | exact ih3 _ _ _
   | exact LeO.none _
   | refine LeO.ite ?_ ?_
   | refine LeO.bind ?_ (fun _ => ?_)
  ·
   intro y0 y1 y2 y3 y4 y5; unfold pledgeref1_Cmp.j1
   repeat' first
   | (with_reducible exact ih0 _ _ _ _ _ _ _)
   | (with_reducible exact ih1 _ _ _ _ _ _)
   | (with_reducible exact ih2 _ _ _ _ _ _ _)
   | (with_reducible exact ih3 _ _ _)
   | (with_reducible exact LeO.refl _)
   | (with_reducible exact LeO.none _)
   | (with_reducible refine LeO.ite ?_ ?_)
   | (with_reducible refine LeO.bind ?_ (fun _ => ?_))
   | exact ih0 _ _ _ _ _ _ _
   | exact ih1 _ _ _ _ _ _
   | exact ih2 _ _ _ _ _ _ _
   | exact ih3 _ _ _
   | exact LeO.none _
   | refine LeO.ite ?_ ?_
   | refine LeO.bind ?_ (fun _ => ?_)
  ·
   intro y0 y1 y2 y3 y4 y5 y6; unfold pledgeref1_Cmp.j2
   repeat' first
   | (with_reducible exact ih0 _ _ _ _ _ _ _)
   | (with_reducible exact ih1 _ _ _ _ _ _)
   | (with_reducible exact ih2 _ _ _ _ _ _ _)
   | (with_reducible exact ih3 _ _ _)
   | (with_reducible exact LeO.refl _)
   | (with_reducible exact LeO.none _)
   | (with_reducible refine LeO.ite ?_ ?_)
   | (with_reducible refine LeO.bind ?_ (fun _ => ?_))
   | exact ih0 _ _ _ _ _ _ _
   | exact ih1 _ _ _ _ _ _
   | exact ih2 _ _ _ _ _ _ _
   | exact ih3 _ _ _
   | exact LeO.none _
   | refine LeO.ite ?_ ?_
   | refine LeO.bind ?_ (fun _ => ?_)
  ·
   intro y0 y1 y2; unfold pledgeref1_Cmp.j3
   repeat' first
   | (with_reducible exact ih0 _ _ _ _ _ _ _)
   | (with_reducible exact ih1 _ _ _ _ _ _)
   | (with_reducible exact ih2 _ _ _ _ _ _ _)
   | (with_reducible exact ih3 _ _ _)
   | (with_reducible exact LeO.refl _)
   | (with_reducible exact LeO.none _)
   | (with_reducible refine LeO.ite ?_ ?_)
   | (with_reducible refine LeO.bind ?_ (fun _ => ?_))
   | exact ih0 _ _ _ _ _ _ _
   | exact ih1 _ _ _ _ _ _
   | exact ih2 _ _ _ _ _ _ _
   | exact ih3 _ _ _
   | exact LeO.none _
   | refine LeO.ite ?_ ?_
   | refine LeO.bind ?_ (fun _ => ?_)
theorem pledgeref1_Cmp.mono : ∀ a0 a1 a2 a3 k, LeO (pledgeref1_Cmp.f k a0 a1 a2 a3) (pledgeref1_Cmp.f (k + 1) a0 a1 a2 a3) := by
 intro a0 a1 a2 a3 k; obtain ⟨ih0, ih1, ih2, ih3⟩ := pledgeref1_Cmp.mono_l k; unfold pledgeref1_Cmp.f
 repeat' first
   | (with_reducible exact ih0 _ _ _ _ _ _ _)
   | (with_reducible exact ih1 _ _ _ _ _ _)
   | (with_reducible exact ih2 _ _ _ _ _ _ _)
   | (with_reducible exact ih3 _ _ _)
   | (with_reducible exact LeO.refl _)
   | (with_reducible exact LeO.none _)
   | (with_reducible refine LeO.ite ?_ ?_)
   | (with_reducible refine LeO.bind ?_ (fun _ => ?_))
   | exact ih0 _ _ _ _ _ _ _
   | exact ih1 _ _ _ _ _ _
   | exact ih2 _ _ _ _ _ _ _
   | exact ih3 _ _ _
   | exact LeO.none _
   | refine LeO.ite ?_ ?_
   | refine LeO.bind ?_ (fun _ => ?_)
set_option maxHeartbeats 8000000 in
set_option maxRecDepth 100000 in
theorem pledgeref1_Cmp.calls [Inhabited (Int → Addr)] (k : Nat) (a0 : Int) (a1 : Int) (a2 : Int) (a3 : Int) (r : Int) (w : World) (h : pledgeref1_Cmp.f k a0 a1 a2 a3 = some r) :
  Calls Tryd.prog 56 #[.int .i64 a0, .int .i64 a1, .int .i64 a2, .int .i64 a3] w fun e w' => e = .returned (.int .i64 r) ∧ Drawn0 w w' := by
 have H : ((pledgeref1_size.f a0).bind fun t282 => ((pledgeref1_size.f a1).bind fun t283 => ((pledgeref1_Wide.f t282 t283).bind fun bt284 => ((pledgeref1_size.f a2).bind fun t286 => ((pledgeref1_size.f a3).bind fun t287 => ((pledgeref1_Wide.f t286 t287).bind fun bt288 => (if ((decide (a0 < 0)) != (decide (a1 < 0))) = true then (if bt284.1 = 0 then (pledgeref1_Cmp.j0 k a2 a3 bt284.1 bt284.2 bt288.1 bt288.2 (bt284.2 != 0)) else (pledgeref1_Cmp.j0 k a2 a3 bt284.1 bt284.2 bt288.1 bt288.2 true)) else (pledgeref1_Cmp.j0 k a2 a3 bt284.1 bt284.2 bt288.1 bt288.2 false)))))))) = some r := h; clear h; replace H := Option.bind_eq_some_iff.mp H; obtain ⟨t282, A50, H⟩ := H; replace H : ((pledgeref1_size.f a1).bind fun t283 => ((pledgeref1_Wide.f t282 t283).bind fun bt284 => ((pledgeref1_size.f a2).bind fun t286 => ((pledgeref1_size.f a3).bind fun t287 => ((pledgeref1_Wide.f t286 t287).bind fun bt288 => (if ((decide (a0 < 0)) != (decide (a1 < 0))) = true then (if bt284.1 = 0 then (pledgeref1_Cmp.j0 k a2 a3 bt284.1 bt284.2 bt288.1 bt288.2 (bt284.2 != 0)) else (pledgeref1_Cmp.j0 k a2 a3 bt284.1 bt284.2 bt288.1 bt288.2 true)) else (pledgeref1_Cmp.j0 k a2 a3 bt284.1 bt284.2 bt288.1 bt288.2 false))))))) = some r := H; have A5 := Aside0.mk A50; clear A50; replace H := Option.bind_eq_some_iff.mp H; obtain ⟨t283, A60, H⟩ := H; replace H : ((pledgeref1_Wide.f t282 t283).bind fun bt284 => ((pledgeref1_size.f a2).bind fun t286 => ((pledgeref1_size.f a3).bind fun t287 => ((pledgeref1_Wide.f t286 t287).bind fun bt288 => (if ((decide (a0 < 0)) != (decide (a1 < 0))) = true then (if bt284.1 = 0 then (pledgeref1_Cmp.j0 k a2 a3 bt284.1 bt284.2 bt288.1 bt288.2 (bt284.2 != 0)) else (pledgeref1_Cmp.j0 k a2 a3 bt284.1 bt284.2 bt288.1 bt288.2 true)) else (pledgeref1_Cmp.j0 k a2 a3 bt284.1 bt284.2 bt288.1 bt288.2 false)))))) = some r := H; have A6 := Aside0.mk A60; clear A60; replace H := Option.bind_eq_some_iff.mp H; obtain ⟨⟨t284, t285⟩, A70, H⟩ := H; replace H : ((pledgeref1_size.f a2).bind fun t286 => ((pledgeref1_size.f a3).bind fun t287 => ((pledgeref1_Wide.f t286 t287).bind fun bt288 => (if ((decide (a0 < 0)) != (decide (a1 < 0))) = true then (if t284 = 0 then (pledgeref1_Cmp.j0 k a2 a3 t284 t285 bt288.1 bt288.2 (t285 != 0)) else (pledgeref1_Cmp.j0 k a2 a3 t284 t285 bt288.1 bt288.2 true)) else (pledgeref1_Cmp.j0 k a2 a3 t284 t285 bt288.1 bt288.2 false))))) = some r := H; have A7 := Aside0.mk A70; clear A70; replace H := Option.bind_eq_some_iff.mp H; obtain ⟨t286, A80, H⟩ := H; replace H : ((pledgeref1_size.f a3).bind fun t287 => ((pledgeref1_Wide.f t286 t287).bind fun bt288 => (if ((decide (a0 < 0)) != (decide (a1 < 0))) = true then (if t284 = 0 then (pledgeref1_Cmp.j0 k a2 a3 t284 t285 bt288.1 bt288.2 (t285 != 0)) else (pledgeref1_Cmp.j0 k a2 a3 t284 t285 bt288.1 bt288.2 true)) else (pledgeref1_Cmp.j0 k a2 a3 t284 t285 bt288.1 bt288.2 false)))) = some r := H; have A8 := Aside0.mk A80; clear A80; replace H := Option.bind_eq_some_iff.mp H; obtain ⟨t287, A90, H⟩ := H; replace H : ((pledgeref1_Wide.f t286 t287).bind fun bt288 => (if ((decide (a0 < 0)) != (decide (a1 < 0))) = true then (if t284 = 0 then (pledgeref1_Cmp.j0 k a2 a3 t284 t285 bt288.1 bt288.2 (t285 != 0)) else (pledgeref1_Cmp.j0 k a2 a3 t284 t285 bt288.1 bt288.2 true)) else (pledgeref1_Cmp.j0 k a2 a3 t284 t285 bt288.1 bt288.2 false))) = some r := H; have A9 := Aside0.mk A90; clear A90; replace H := Option.bind_eq_some_iff.mp H; obtain ⟨⟨t288, t289⟩, A100, H⟩ := H; replace H : (if ((decide (a0 < 0)) != (decide (a1 < 0))) = true then (if t284 = 0 then (pledgeref1_Cmp.j0 k a2 a3 t284 t285 t288 t289 (t285 != 0)) else (pledgeref1_Cmp.j0 k a2 a3 t284 t285 t288 t289 true)) else (pledgeref1_Cmp.j0 k a2 a3 t284 t285 t288 t289 false)) = some r := H; have A10 := Aside0.mk A100; clear A100; have HC11 := Aside0.mk H; clear H
 go_enter Tryd.func56, Tryd.ntmps56
 go_upto_region 3 with (first | ((with_reducible refine gate_callee (f := 43) rfl ?_); refine goesL_ (some 18) rfl rfl Tryd.func43 (by kernel_rfl) rfl #[.int .i64 a0] rfl zM ?_; (with_reducible refine (pledgeref1_size.calls a0 t282 _ A5.out).mono ?_); rintro e w' ⟨rfl, ⟨nd, rfl⟩⟩; refine ⟨_, rfl, ?_⟩) | ((with_reducible refine gate_callee (f := 43) rfl ?_); refine goesL_ (some 20) rfl rfl Tryd.func43 (by kernel_rfl) rfl #[.int .i64 a1] rfl zM ?_; (with_reducible refine (pledgeref1_size.calls a1 t283 _ A6.out).mono ?_); rintro e w' ⟨rfl, ⟨nd, rfl⟩⟩; refine ⟨_, rfl, ?_⟩) | ((with_reducible refine gate_callee (f := 42) rfl ?_); refine goesL_ (some 21) rfl rfl Tryd.func42 (by kernel_rfl) rfl #[.int .u64 t282, .int .u64 t283] rfl zM ?_; (with_reducible refine (pledgeref1_Wide.calls t282 t283 t284 t285 _ A7.out).mono ?_); rintro e w' ⟨rfl, ⟨nd, rfl⟩⟩; refine ⟨_, rfl, ?_⟩) | ((with_reducible refine gate_callee (f := 43) rfl ?_); refine goesL_ (some 26) rfl rfl Tryd.func43 (by kernel_rfl) rfl #[.int .i64 a2] rfl zM ?_; (with_reducible refine (pledgeref1_size.calls a2 t286 _ A8.out).mono ?_); rintro e w' ⟨rfl, ⟨nd, rfl⟩⟩; refine ⟨_, rfl, ?_⟩) | ((with_reducible refine gate_callee (f := 43) rfl ?_); refine goesL_ (some 28) rfl rfl Tryd.func43 (by kernel_rfl) rfl #[.int .i64 a3] rfl zM ?_; (with_reducible refine (pledgeref1_size.calls a3 t287 _ A9.out).mono ?_); rintro e w' ⟨rfl, ⟨nd, rfl⟩⟩; refine ⟨_, rfl, ?_⟩) | ((with_reducible refine gate_callee (f := 42) rfl ?_); refine goesL_ (some 29) rfl rfl Tryd.func42 (by kernel_rfl) rfl #[.int .u64 t286, .int .u64 t287] rfl zM ?_; (with_reducible refine (pledgeref1_Wide.calls t286 t287 t288 t289 _ A10.out).mono ?_); rintro e w' ⟨rfl, ⟨nd, rfl⟩⟩; refine ⟨_, rfl, ?_⟩))
 (try simp only [Act.put, zq1, zq2, zq3])
 go_cut [13] (fun v13 wc => ∃ (kq : Nat) (x13_10 : Bool), v13 = .bool x13_10 ∧ Aside0 (pledgeref1_Cmp.j0 kq a2 a3 t284 t285 t288 t289 x13_10 = some r) ∧ Aside0 (kq ≤ k) ∧ Drawn0 w wc)
 case first =>
  have H := HC11.out; clear HC11; by_cases c12 : ((decide (a0 < 0)) != (decide (a1 < 0))) = true
  ·
   rw [if_pos c12] at H; have c12b0 : ((decide (a0 < 0)) != (decide (a1 < 0))) = true := c12; (try (have c12b1 : decide ((decide (a0 < 0)) = (decide (a1 < 0))) = false := by simpa using c12)); (try (have c12b2 : ((decide (a0 < 0)) == (decide (a1 < 0))) = false := by simpa using c12)); (try (have c12b3 : ¬ ((decide (a0 < 0)) = (decide (a1 < 0))) := by simpa using c12)); clear c12
   (first | rw [c12b0] | (simp only [i64_w, i32_w]; rw [c12b0]) | skip)
   by_cases c13 : t284 = 0
   ·
    rw [if_pos c13] at H; have c13b0 : (t284 == 0) = true := beq_iff_eq.mpr c13; have c13b1 : (t284 != 0) = false := bne_eq_false_iff_eq.mpr c13; clear c13; have H' := Aside0.mk H; clear H
    go_wp2
    go_meet
    case rel => exact ⟨_, ((t285 != 0)), zS, H', ⟨by first | omega | exact Nat.le_refl _⟩, zD⟩
   ·
    rw [if_neg c13] at H; have c13b0 : (t284 == 0) = false := beq_eq_false_iff_ne.mpr c13; have c13b1 : (t284 != 0) = true := bne_iff_ne.mpr c13; have H' := Aside0.mk H; clear H
    go_wp2
    go_meet
    case rel => exact ⟨_, (true), zS, H', ⟨by first | omega | exact Nat.le_refl _⟩, zD⟩
  ·
   rw [if_neg c12] at H; have c12b0 : ((decide (a0 < 0)) != (decide (a1 < 0))) = false := by simpa using c12
   (try (have c12b1 : decide ((decide (a0 < 0)) = (decide (a1 < 0))) = true := by simpa using c12)); (try (have c12b2 : ((decide (a0 < 0)) == (decide (a1 < 0))) = true := by simpa using c12)); clear c12
   (first | rw [c12b0] | (simp only [i64_w, i32_w]; rw [c12b0]) | skip)
   have H' := Aside0.mk H; clear H
   go_wp2
   go_meet
   case rel => exact ⟨_, (false), zS, H', ⟨by first | omega | exact Nat.le_refl _⟩, zD⟩
 case rest =>
  clear HC11
  try clear c1
  try clear p2
  try clear c4
  try clear c5
  try clear c12
  try clear c12b0
  try clear c12b1
  try clear c12b2
  try clear c13
  try clear c13b0
  try clear c13b1
  obtain ⟨kq, x13_10, rfl, HA, HJ10, ⟨mc10, rfl⟩⟩ := hcut
  cases kq with
  | zero => exact absurd HA.out (by simp [pledgeref1_Cmp.j0])
  | succ kj10 =>
   have H := HA.out; clear HA; simp only [pledgeref1_Cmp.j0] at H; have HC14 := Aside0.mk H; clear H
   go_upto_region 4 with (fail)
   go_cut [14] (fun v14 wc => ∃ (kq : Nat) (x14_13 : Bool), v14 = .bool x14_13 ∧ Aside0 (pledgeref1_Cmp.j1 kq t284 t285 t288 t289 x13_10 x14_13 = some r) ∧ Aside0 (kq ≤ kj10) ∧ Drawn0 w wc)
   case first =>
    have H := HC14.out; clear HC14; by_cases c15 : ((decide (a2 < 0)) != (decide (a3 < 0))) = true
    ·
     rw [if_pos c15] at H; have c15b0 : ((decide (a2 < 0)) != (decide (a3 < 0))) = true := c15; (try (have c15b1 : decide ((decide (a2 < 0)) = (decide (a3 < 0))) = false := by simpa using c15)); (try (have c15b2 : ((decide (a2 < 0)) == (decide (a3 < 0))) = false := by simpa using c15)); (try (have c15b3 : ¬ ((decide (a2 < 0)) = (decide (a3 < 0))) := by simpa using c15)); clear c15
     (first | rw [c15b0] | (simp only [i64_w, i32_w]; rw [c15b0]) | skip)
     by_cases c16 : t288 = 0
     ·
      rw [if_pos c16] at H; have c16b0 : (t288 == 0) = true := beq_iff_eq.mpr c16; have c16b1 : (t288 != 0) = false := bne_eq_false_iff_eq.mpr c16; clear c16; have H' := Aside0.mk H; clear H
      go_wp2
      go_meet
      case rel => exact ⟨_, ((t289 != 0)), zS, H', ⟨by have := HJ10.out; first | omega | exact Nat.le_refl _⟩, zD⟩
     ·
      rw [if_neg c16] at H; have c16b0 : (t288 == 0) = false := beq_eq_false_iff_ne.mpr c16; have c16b1 : (t288 != 0) = true := bne_iff_ne.mpr c16; have H' := Aside0.mk H; clear H
      go_wp2
      go_meet
      case rel => exact ⟨_, (true), zS, H', ⟨by have := HJ10.out; first | omega | exact Nat.le_refl _⟩, zD⟩
    ·
     rw [if_neg c15] at H; have c15b0 : ((decide (a2 < 0)) != (decide (a3 < 0))) = false := by simpa using c15
     (try (have c15b1 : decide ((decide (a2 < 0)) = (decide (a3 < 0))) = true := by simpa using c15)); (try (have c15b2 : ((decide (a2 < 0)) == (decide (a3 < 0))) = true := by simpa using c15)); clear c15
     (first | rw [c15b0] | (simp only [i64_w, i32_w]; rw [c15b0]) | skip)
     have H' := Aside0.mk H; clear H
     go_wp2
     go_meet
     case rel => exact ⟨_, (false), zS, H', ⟨by have := HJ10.out; first | omega | exact Nat.le_refl _⟩, zD⟩
   case rest =>
    clear HC14
    try clear c1
    try clear p2
    try clear c4
    try clear c5
    try clear c10
    try clear c12
    try clear c12b0
    try clear c12b1
    try clear c12b2
    try clear c13
    try clear c13b0
    try clear c13b1
    try clear c15
    try clear c15b0
    try clear c15b1
    try clear c15b2
    try clear c16
    try clear c16b0
    try clear c16b1
    try clear p2
    obtain ⟨kq, x14_13, rfl, HA, HJ13, ⟨mc13, rfl⟩⟩ := hcut
    cases kq with
    | zero => exact absurd HA.out (by simp [pledgeref1_Cmp.j1])
    | succ kj13 =>
     have H := HA.out; clear HA; simp only [pledgeref1_Cmp.j1] at H; by_cases c17 : (x13_10 != x14_13) = true
     ·
      rw [if_pos c17] at H; have c17b0 : (x13_10 != x14_13) = true := c17; (try (have c17b1 : decide (x13_10 = x14_13) = false := by simpa using c17)); (try (have c17b2 : (x13_10 == x14_13) = false := by simpa using c17)); (try (have c17b3 : ¬ (x13_10 = x14_13) := by simpa using c17)); clear c17; by_cases c18 : x13_10 = true
      ·
       subst c18; have H1 : (some (-1)) = some r := by rw [if_pos rfl] at H; exact H
       clear H; have H := H1; clear H1; obtain rfl := Option.some.inj H
       go_wp2
       go_ret
       exact ⟨zF, zD⟩
      ·
       replace c18 := Bool.eq_false_iff.mpr c18; subst c18; have H1 : (some 1) = some r := by rw [if_neg (show ¬ (false = true) by decide)] at H; exact H
       clear H; have H := H1; clear H1; obtain rfl := Option.some.inj H
       go_wp2
       go_ret
       exact ⟨zF, zD⟩
     ·
      rw [if_neg c17] at H; have c17b0 : (x13_10 != x14_13) = false := by simpa using c17
      (try (have c17b1 : decide (x13_10 = x14_13) = true := by simpa using c17)); (try (have c17b2 : (x13_10 == x14_13) = true := by simpa using c17)); clear c17; have HC19 := Aside0.mk H; clear H
      go_upto_region 10 with (fail)
      go_cut [74] (fun v74 wc => ∃ (kq : Nat) (x74_18 : Bool), v74 = .bool x74_18 ∧ Aside0 (pledgeref1_Cmp.j2 kq t284 t285 t288 t289 x13_10 0 x74_18 = some r) ∧ Aside0 (kq ≤ kj13) ∧ Drawn0 w wc)
      case first =>
       have H := HC19.out; clear HC19; by_cases c20 : t284 < t288
       ·
        rw [if_pos c20] at H; have c20b0 : decide (t284 < t288) = true := decide_eq_true c20; clear c20
        (first | rw [c20b0] | (simp only [i64_w, i32_w]; rw [c20b0]) | skip)
        have H' := Aside0.mk H; clear H
        go_wp2
        go_meet
        case rel => exact ⟨_, (true), zS, H', ⟨by have := HJ10.out; have := HJ13.out; first | omega | exact Nat.le_refl _⟩, zD⟩
       ·
        rw [if_neg c20] at H; have c20b0 : decide (t284 < t288) = false := decide_eq_false c20; clear c20
        (first | rw [c20b0] | (simp only [i64_w, i32_w]; rw [c20b0]) | skip)
        by_cases c21 : t284 = t288
        ·
         rw [if_pos c21] at H; have c21b0 : (t284 == t288) = true := beq_iff_eq.mpr c21; have c21b1 : (t284 != t288) = false := bne_eq_false_iff_eq.mpr c21; clear c21; have H' := Aside0.mk H; clear H
         go_wp2
         go_meet
         case rel => exact ⟨_, (decide (t285 < t289)), zS, H', ⟨by have := HJ10.out; have := HJ13.out; first | omega | exact Nat.le_refl _⟩, zD⟩
        ·
         rw [if_neg c21] at H; have c21b0 : (t284 == t288) = false := beq_eq_false_iff_ne.mpr c21; have c21b1 : (t284 != t288) = true := bne_iff_ne.mpr c21; have H' := Aside0.mk H; clear H
         go_wp2
         go_meet
         case rel => exact ⟨_, (false), zS, H', ⟨by have := HJ10.out; have := HJ13.out; first | omega | exact Nat.le_refl _⟩, zD⟩
      case rest =>
       clear HC19
       try clear c1
       try clear c2
       try clear p2
       try clear c4
       try clear c5
       try clear p6
       try clear c10
       try clear c12
       try clear c12b0
       try clear c12b1
       try clear c12b2
       try clear c13
       try clear c13b0
       try clear c13b1
       try clear c15
       try clear c15b0
       try clear c15b1
       try clear c15b2
       try clear c16
       try clear c16b0
       try clear c16b1
       try clear c17
       try clear c17b0
       try clear c17b1
       try clear c17b2
       try clear c18
       try clear c20
       try clear c20b0
       try clear c21
       try clear c21b0
       try clear c21b1
       try clear p2
       obtain ⟨kq, x74_18, rfl, HA, HJ18, ⟨mc18, rfl⟩⟩ := hcut
       cases kq with
       | zero => exact absurd HA.out (by simp [pledgeref1_Cmp.j2])
       | succ kj18 =>
        have H := HA.out; clear HA; simp only [pledgeref1_Cmp.j2] at H; by_cases c22 : x74_18 = true
        ·
         subst c22; have H1 : (if x13_10 = true then (some (-(-1))) else (some (-1))) = some r := by rw [if_pos rfl] at H; exact H
         clear H; have H := H1; clear H1; by_cases c23 : x13_10 = true
         ·
          subst c23; have H1 : (some (-(-1))) = some r := by rw [if_pos rfl] at H; exact H
          clear H; have H := H1; clear H1; obtain rfl := Option.some.inj H
          go_wp2
          go_ret
          exact ⟨zF, zD⟩
         ·
          replace c23 := Bool.eq_false_iff.mpr c23; subst c23; have H1 : (some (-1)) = some r := by rw [if_neg (show ¬ (false = true) by decide)] at H; exact H
          clear H; have H := H1; clear H1; obtain rfl := Option.some.inj H
          go_wp2
          go_ret
          exact ⟨zF, zD⟩
        ·
         replace c22 := Bool.eq_false_iff.mpr c22; subst c22; have H1 : (if t284 = t288 then (pledgeref1_Cmp.j3 kj18 x13_10 0 (t285 != t289)) else (pledgeref1_Cmp.j3 kj18 x13_10 0 true)) = some r := by rw [if_neg (show ¬ (false = true) by decide)] at H; exact H
         clear H; have H := H1; clear H1; have HC24 := Aside0.mk H; clear H
         go_upto_region 12 with (fail)
         go_cut [82] (fun v82 wc => ∃ (kq : Nat) (x82_23 : Bool), v82 = .bool x82_23 ∧ Aside0 (pledgeref1_Cmp.j3 kq x13_10 0 x82_23 = some r) ∧ Aside0 (kq ≤ kj18) ∧ Drawn0 w wc)
         case first =>
          have H := HC24.out; clear HC24; by_cases c25 : t284 = t288
          ·
           rw [if_pos c25] at H; have c25b0 : (t284 == t288) = true := beq_iff_eq.mpr c25; have c25b1 : (t284 != t288) = false := bne_eq_false_iff_eq.mpr c25; clear c25
           (first | rw [c25b0] | (simp only [i64_w, i32_w]; rw [c25b0]) | skip)
           have H' := Aside0.mk H; clear H
           go_wp2
           go_meet
           case rel => exact ⟨_, ((t285 != t289)), zS, H', ⟨by have := HJ10.out; have := HJ13.out; have := HJ18.out; first | omega | exact Nat.le_refl _⟩, zD⟩
          ·
           rw [if_neg c25] at H; have c25b0 : (t284 == t288) = false := beq_eq_false_iff_ne.mpr c25; have c25b1 : (t284 != t288) = true := bne_iff_ne.mpr c25
           (first | rw [c25b0] | (simp only [i64_w, i32_w]; rw [c25b0]) | skip)
           have H' := Aside0.mk H; clear H
           go_wp2
           go_meet
           case rel => exact ⟨_, (true), zS, H', ⟨by have := HJ10.out; have := HJ13.out; have := HJ18.out; first | omega | exact Nat.le_refl _⟩, zD⟩
         case rest =>
          clear HC24
          try clear c1
          try clear c2
          try clear p2
          try clear c4
          try clear c5
          try clear p6
          try clear c10
          try clear c12
          try clear c12b0
          try clear c12b1
          try clear c12b2
          try clear c13
          try clear c13b0
          try clear c13b1
          try clear c15
          try clear c15b0
          try clear c15b1
          try clear c15b2
          try clear c16
          try clear c16b0
          try clear c16b1
          try clear c17
          try clear c17b0
          try clear c17b1
          try clear c17b2
          try clear c18
          try clear c20
          try clear c20b0
          try clear c21
          try clear c21b0
          try clear c21b1
          try clear c22
          try clear c23
          try clear c25
          try clear c25b0
          try clear c25b1
          try clear p2
          try clear p6
          obtain ⟨kq, x82_23, rfl, HA, HJ23, ⟨mc23, rfl⟩⟩ := hcut
          cases kq with
          | zero => exact absurd HA.out (by simp [pledgeref1_Cmp.j3])
          | succ kj23 =>
           have H := HA.out; clear HA; simp only [pledgeref1_Cmp.j3] at H; by_cases c26 : x82_23 = true
           ·
            subst c26; have H1 : (if x13_10 = true then (some (-1)) else (some 1)) = some r := by rw [if_pos rfl] at H; exact H
            clear H; have H := H1; clear H1; by_cases c27 : x13_10 = true
            ·
             subst c27; have H1 : (some (-1)) = some r := by rw [if_pos rfl] at H; exact H
             clear H; have H := H1; clear H1; obtain rfl := Option.some.inj H
             go_wp2
             go_ret
             exact ⟨zF, zD⟩
            ·
             replace c27 := Bool.eq_false_iff.mpr c27; subst c27; have H1 : (some 1) = some r := by rw [if_neg (show ¬ (false = true) by decide)] at H; exact H
             clear H; have H := H1; clear H1; obtain rfl := Option.some.inj H
             go_wp2
             go_ret
             exact ⟨zF, zD⟩
           ·
            replace c26 := Bool.eq_false_iff.mpr c26; subst c26; have H1 : (if x13_10 = true then (some (wrap64 (-0))) else (some 0)) = some r := by rw [if_neg (show ¬ (false = true) by decide)] at H; exact H
            clear H; have H := H1; clear H1; by_cases c28 : x13_10 = true
            ·
             subst c28; have H1 : (some (wrap64 (-0))) = some r := by rw [if_pos rfl] at H; exact H
             clear H; have H := H1; clear H1; obtain rfl := Option.some.inj H
             go_wp2
             go_ret
             exact ⟨zF, zD⟩
            ·
             replace c28 := Bool.eq_false_iff.mpr c28; subst c28; have H1 : (some 0) = some r := by rw [if_neg (show ¬ (false = true) by decide)] at H; exact H
             clear H; have H := H1; clear H1; obtain rfl := Option.some.inj H
             go_wp2
             go_ret
             exact ⟨zF, zD⟩

/-! ### pledgeref18_dearer: function 41 -/
def pledgeref18_dearer.f (k : Nat) (a0_0 : Int) (a0_1 : Int) (a0_2 : Int) (a0_3 : Int) (a1_0 : Int) (a1_1 : Int) (a1_2 : Int) (a1_3 : Int) : Option (Bool) := if a0_1 = 0 then (some (a1_1 != 0)) else (if a1_1 = 0 then (some false) else ((pledgeref1_Cmp.f k a0_2 a1_1 a1_2 a0_1).bind fun t292 => (some (decide (t292 > 0)))))
theorem pledgeref18_dearer.mono : ∀ a0 a1 a2 a3 a4 a5 a6 a7 k, LeO (pledgeref18_dearer.f k a0 a1 a2 a3 a4 a5 a6 a7) (pledgeref18_dearer.f (k + 1) a0 a1 a2 a3 a4 a5 a6 a7) := by
 intro a0 a1 a2 a3 a4 a5 a6 a7 k; unfold pledgeref18_dearer.f
 repeat' first
   | (with_reducible exact pledgeref1_Cmp.mono _ _ _ _ _)
   | (with_reducible exact LeO.refl _)
   | (with_reducible exact LeO.none _)
   | (with_reducible refine LeO.ite ?_ ?_)
   | (with_reducible refine LeO.bind ?_ (fun _ => ?_))
   | exact pledgeref1_Cmp.mono _ _ _ _ _
   | exact LeO.none _
   | refine LeO.ite ?_ ?_
   | refine LeO.bind ?_ (fun _ => ?_)
set_option maxHeartbeats 8000000 in
set_option maxRecDepth 100000 in
theorem pledgeref18_dearer.calls [Inhabited (Int → Addr)] (k : Nat) (a0_0 : Int) (a0_1 : Int) (a0_2 : Int) (a0_3 : Int) (a1_0 : Int) (a1_1 : Int) (a1_2 : Int) (a1_3 : Int) (r : Bool) (w : World) (h : pledgeref18_dearer.f k a0_0 a0_1 a0_2 a0_3 a1_0 a1_1 a1_2 a1_3 = some r) :
  Calls Tryd.prog 41 #[.agg #[.int .i64 a0_0, .int .i64 a0_1, .int .i64 a0_2, .int .i64 a0_3], .agg #[.int .i64 a1_0, .int .i64 a1_1, .int .i64 a1_2, .int .i64 a1_3]] w fun e w' => e = .returned (.bool r) ∧ Below w.heap.size w w' := by
 have hu47 := Tryd.underlying47; have HB := Aside0.mk (Below.refl w.heap.size w); have H : (if a0_1 = 0 then (some (a1_1 != 0)) else (if a1_1 = 0 then (some false) else ((pledgeref1_Cmp.f k a0_2 a1_1 a1_2 a0_1).bind fun t292 => (some (decide (t292 > 0)))))) = some r := h; clear h; by_cases c3 : a0_1 = 0
 ·
  rw [if_pos c3] at H; have c3b0 : (a0_1 == 0) = true := beq_iff_eq.mpr c3; have c3b1 : (a0_1 != 0) = false := bne_eq_false_iff_eq.mpr c3; clear c3; obtain rfl := Option.some.inj H
  go_enter Tryd.func41, Tryd.ntmps41
  go_wp2_with (first | ((with_reducible refine gate_dst (N := 2) rfl ?_); refine box_event ?hg (N := 2) ?hd (cs := #[.int .i64 a0_0, .int .i64 a0_1, .int .i64 a0_2, .int .i64 a0_3]) (t := 47) ?hr ?_; (case hd => rfl); (case hg => rfl); (case hr => first | (go_simp; done) | (go_simp; rfl)); intro gb290 hg w4 hbox hb; have n0_ := Aside0.mk (below_step (zH HB.out) hb); have n1_ := Aside0.mk (hbox); have n2_ := Aside0.mk (zg hg (below_size (zH HB.out)) : w.heap.size ≤ gb290); have n3_ := Aside0.mk (zg hg (below_size (zH HB.out)) : w.heap.size ≤ gb290); clear HB; have HB := n0_; have BK290 := n1_; have GW290 := n2_; have GE290 := n3_; clear n0_ n1_ n2_ n3_; clear hb hbox hg) | ((with_reducible refine gate_dst (N := 3) rfl ?_); refine box_event ?hg (N := 3) ?hd (cs := #[.int .i64 a1_0, .int .i64 a1_1, .int .i64 a1_2, .int .i64 a1_3]) (t := 47) ?hr ?_; (case hd => rfl); (case hg => rfl); (case hr => first | (go_simp; done) | (go_simp; rfl)); intro gb291 hg w5 hbox hb; have n0_ := zBB BK290 hb; have n1_ := Aside0.mk (below_step (zH1 HB.out GE290.out) hb); have n2_ := Aside0.mk (hbox); have n3_ := Aside0.mk (zg hg (below_size (zH1 HB.out GE290.out)) : w.heap.size ≤ gb291); have n4_ := Aside0.mk (zg hg (below_size (zH1 HB.out GE290.out)) : w.heap.size ≤ gb291); have n5_ := Aside0.mk (zN hg BK290 : gb290 ≠ gb291); have n6_ := Aside0.mk (zO hg BK290 : gb291 ≠ gb290); clear BK290; clear HB; have BK290 := n0_; have HB := n1_; have BK291 := n2_; have GW291 := n3_; have GE291 := n4_; have NB290_291 := n5_; have NB291_290 := n6_; clear n0_ n1_ n2_ n3_ n4_ n5_ n6_; clear hb hbox hg; have hnb6 := NB290_291.out; have hnc6 := NB291_290.out; have hcz7_0 : w5.cell? ⟨gb290, 0, none⟩ = some (.int .i64 a0_0) := (blk_cell BK290.out 0).trans rfl; have hcz7_1 : w5.cell? ⟨gb290, 1, none⟩ = some (.int .i64 a0_1) := (blk_cell BK290.out 1).trans rfl; have hcz7_2 : w5.cell? ⟨gb290, 2, none⟩ = some (.int .i64 a0_2) := (blk_cell BK290.out 2).trans rfl; have hcz7_3 : w5.cell? ⟨gb290, 3, none⟩ = some (.int .i64 a0_3) := (blk_cell BK290.out 3).trans rfl; have hfz7_0 := blk_frozen BK290.out 0; have hfz7_1 := blk_frozen BK290.out 1; have hfz7_2 := blk_frozen BK290.out 2; have hfz7_3 := blk_frozen BK290.out 3; have hcz8_0 : w5.cell? ⟨gb291, 0, none⟩ = some (.int .i64 a1_0) := (blk_cell BK291.out 0).trans rfl; have hcz8_1 : w5.cell? ⟨gb291, 1, none⟩ = some (.int .i64 a1_1) := (blk_cell BK291.out 1).trans rfl; have hcz8_2 : w5.cell? ⟨gb291, 2, none⟩ = some (.int .i64 a1_2) := (blk_cell BK291.out 2).trans rfl; have hcz8_3 : w5.cell? ⟨gb291, 3, none⟩ = some (.int .i64 a1_3) := (blk_cell BK291.out 3).trans rfl; have hfz8_0 := blk_frozen BK291.out 0; have hfz8_1 := blk_frozen BK291.out 1; have hfz8_2 := blk_frozen BK291.out 2; have hfz8_3 := blk_frozen BK291.out 3))
  go_ret
  exact ⟨zE, zH2 HB.out GE290.out GE291.out⟩
 ·
  rw [if_neg c3] at H; have c3b0 : (a0_1 == 0) = false := beq_eq_false_iff_ne.mpr c3; have c3b1 : (a0_1 != 0) = true := bne_iff_ne.mpr c3; by_cases c9 : a1_1 = 0
  ·
   rw [if_pos c9] at H; have c9b0 : (a1_1 == 0) = true := beq_iff_eq.mpr c9; have c9b1 : (a1_1 != 0) = false := bne_eq_false_iff_eq.mpr c9; clear c9; obtain rfl := Option.some.inj H
   go_enter Tryd.func41, Tryd.ntmps41
   go_wp2_with (first | ((with_reducible refine gate_dst (N := 2) rfl ?_); refine box_event ?hg (N := 2) ?hd (cs := #[.int .i64 a0_0, .int .i64 a0_1, .int .i64 a0_2, .int .i64 a0_3]) (t := 47) ?hr ?_; (case hd => rfl); (case hg => rfl); (case hr => first | (go_simp; done) | (go_simp; rfl)); intro gb290 hg w10 hbox hb; have n0_ := Aside0.mk (below_step (zH HB.out) hb); have n1_ := Aside0.mk (hbox); have n2_ := Aside0.mk (zg hg (below_size (zH HB.out)) : w.heap.size ≤ gb290); have n3_ := Aside0.mk (zg hg (below_size (zH HB.out)) : w.heap.size ≤ gb290); clear HB; have HB := n0_; have BK290 := n1_; have GW290 := n2_; have GE290 := n3_; clear n0_ n1_ n2_ n3_; clear hb hbox hg) | ((with_reducible refine gate_dst (N := 3) rfl ?_); refine box_event ?hg (N := 3) ?hd (cs := #[.int .i64 a1_0, .int .i64 a1_1, .int .i64 a1_2, .int .i64 a1_3]) (t := 47) ?hr ?_; (case hd => rfl); (case hg => rfl); (case hr => first | (go_simp; done) | (go_simp; rfl)); intro gb291 hg w11 hbox hb; have n0_ := zBB BK290 hb; have n1_ := Aside0.mk (below_step (zH1 HB.out GE290.out) hb); have n2_ := Aside0.mk (hbox); have n3_ := Aside0.mk (zg hg (below_size (zH1 HB.out GE290.out)) : w.heap.size ≤ gb291); have n4_ := Aside0.mk (zg hg (below_size (zH1 HB.out GE290.out)) : w.heap.size ≤ gb291); have n5_ := Aside0.mk (zN hg BK290 : gb290 ≠ gb291); have n6_ := Aside0.mk (zO hg BK290 : gb291 ≠ gb290); clear BK290; clear HB; have BK290 := n0_; have HB := n1_; have BK291 := n2_; have GW291 := n3_; have GE291 := n4_; have NB290_291 := n5_; have NB291_290 := n6_; clear n0_ n1_ n2_ n3_ n4_ n5_ n6_; clear hb hbox hg; have hnb12 := NB290_291.out; have hnc12 := NB291_290.out; have hcz13_0 : w11.cell? ⟨gb290, 0, none⟩ = some (.int .i64 a0_0) := (blk_cell BK290.out 0).trans rfl; have hcz13_1 : w11.cell? ⟨gb290, 1, none⟩ = some (.int .i64 a0_1) := (blk_cell BK290.out 1).trans rfl; have hcz13_2 : w11.cell? ⟨gb290, 2, none⟩ = some (.int .i64 a0_2) := (blk_cell BK290.out 2).trans rfl; have hcz13_3 : w11.cell? ⟨gb290, 3, none⟩ = some (.int .i64 a0_3) := (blk_cell BK290.out 3).trans rfl; have hfz13_0 := blk_frozen BK290.out 0; have hfz13_1 := blk_frozen BK290.out 1; have hfz13_2 := blk_frozen BK290.out 2; have hfz13_3 := blk_frozen BK290.out 3; have hcz14_0 : w11.cell? ⟨gb291, 0, none⟩ = some (.int .i64 a1_0) := (blk_cell BK291.out 0).trans rfl; have hcz14_1 : w11.cell? ⟨gb291, 1, none⟩ = some (.int .i64 a1_1) := (blk_cell BK291.out 1).trans rfl; have hcz14_2 : w11.cell? ⟨gb291, 2, none⟩ = some (.int .i64 a1_2) := (blk_cell BK291.out 2).trans rfl; have hcz14_3 : w11.cell? ⟨gb291, 3, none⟩ = some (.int .i64 a1_3) := (blk_cell BK291.out 3).trans rfl; have hfz14_0 := blk_frozen BK291.out 0; have hfz14_1 := blk_frozen BK291.out 1; have hfz14_2 := blk_frozen BK291.out 2; have hfz14_3 := blk_frozen BK291.out 3))
   go_ret
   exact ⟨zE, zH2 HB.out GE290.out GE291.out⟩
  ·
   rw [if_neg c9] at H; have c9b0 : (a1_1 == 0) = false := beq_eq_false_iff_ne.mpr c9; have c9b1 : (a1_1 != 0) = true := bne_iff_ne.mpr c9; replace H := Option.bind_eq_some_iff.mp H; obtain ⟨t292, A150, H⟩ := H; replace H : (some (decide (t292 > 0))) = some r := H; have A15 := Aside0.mk A150; clear A150; obtain rfl := Option.some.inj H
   go_enter Tryd.func41, Tryd.ntmps41
   go_wp2_with (first | ((with_reducible refine gate_dst (N := 2) rfl ?_); refine box_event ?hg (N := 2) ?hd (cs := #[.int .i64 a0_0, .int .i64 a0_1, .int .i64 a0_2, .int .i64 a0_3]) (t := 47) ?hr ?_; (case hd => rfl); (case hg => rfl); (case hr => first | (go_simp; done) | (go_simp; rfl)); intro gb290 hg w16 hbox hb; have n0_ := Aside0.mk (below_step (zH HB.out) hb); have n1_ := Aside0.mk (hbox); have n2_ := Aside0.mk (zg hg (below_size (zH HB.out)) : w.heap.size ≤ gb290); have n3_ := Aside0.mk (zg hg (below_size (zH HB.out)) : w.heap.size ≤ gb290); clear HB; have HB := n0_; have BK290 := n1_; have GW290 := n2_; have GE290 := n3_; clear n0_ n1_ n2_ n3_; clear hb hbox hg) | ((with_reducible refine gate_dst (N := 3) rfl ?_); refine box_event ?hg (N := 3) ?hd (cs := #[.int .i64 a1_0, .int .i64 a1_1, .int .i64 a1_2, .int .i64 a1_3]) (t := 47) ?hr ?_; (case hd => rfl); (case hg => rfl); (case hr => first | (go_simp; done) | (go_simp; rfl)); intro gb291 hg w17 hbox hb; have n0_ := zBB BK290 hb; have n1_ := Aside0.mk (below_step (zH1 HB.out GE290.out) hb); have n2_ := Aside0.mk (hbox); have n3_ := Aside0.mk (zg hg (below_size (zH1 HB.out GE290.out)) : w.heap.size ≤ gb291); have n4_ := Aside0.mk (zg hg (below_size (zH1 HB.out GE290.out)) : w.heap.size ≤ gb291); have n5_ := Aside0.mk (zN hg BK290 : gb290 ≠ gb291); have n6_ := Aside0.mk (zO hg BK290 : gb291 ≠ gb290); clear BK290; clear HB; have BK290 := n0_; have HB := n1_; have BK291 := n2_; have GW291 := n3_; have GE291 := n4_; have NB290_291 := n5_; have NB291_290 := n6_; clear n0_ n1_ n2_ n3_ n4_ n5_ n6_; clear hb hbox hg; have hnb18 := NB290_291.out; have hnc18 := NB291_290.out; have hcz19_0 : w17.cell? ⟨gb290, 0, none⟩ = some (.int .i64 a0_0) := (blk_cell BK290.out 0).trans rfl; have hcz19_1 : w17.cell? ⟨gb290, 1, none⟩ = some (.int .i64 a0_1) := (blk_cell BK290.out 1).trans rfl; have hcz19_2 : w17.cell? ⟨gb290, 2, none⟩ = some (.int .i64 a0_2) := (blk_cell BK290.out 2).trans rfl; have hcz19_3 : w17.cell? ⟨gb290, 3, none⟩ = some (.int .i64 a0_3) := (blk_cell BK290.out 3).trans rfl; have hfz19_0 := blk_frozen BK290.out 0; have hfz19_1 := blk_frozen BK290.out 1; have hfz19_2 := blk_frozen BK290.out 2; have hfz19_3 := blk_frozen BK290.out 3; have hcz20_0 : w17.cell? ⟨gb291, 0, none⟩ = some (.int .i64 a1_0) := (blk_cell BK291.out 0).trans rfl; have hcz20_1 : w17.cell? ⟨gb291, 1, none⟩ = some (.int .i64 a1_1) := (blk_cell BK291.out 1).trans rfl; have hcz20_2 : w17.cell? ⟨gb291, 2, none⟩ = some (.int .i64 a1_2) := (blk_cell BK291.out 2).trans rfl; have hcz20_3 : w17.cell? ⟨gb291, 3, none⟩ = some (.int .i64 a1_3) := (blk_cell BK291.out 3).trans rfl; have hfz20_0 := blk_frozen BK291.out 0; have hfz20_1 := blk_frozen BK291.out 1; have hfz20_2 := blk_frozen BK291.out 2; have hfz20_3 := blk_frozen BK291.out 3) | ((with_reducible refine gate_callee (f := 56) rfl ?_); refine goesL_ (some 29) rfl rfl Tryd.func56 (by kernel_rfl) rfl #[.int .i64 a0_2, .int .i64 a1_1, .int .i64 a1_2, .int .i64 a0_1] rfl zM ?_; (with_reducible refine (pledgeref1_Cmp.calls k a0_2 a1_1 a1_2 a0_1 t292 _ A15.out).mono ?_); rintro e w' ⟨rfl, ⟨nd, rfl⟩⟩; refine ⟨_, rfl, ?_⟩))
   go_ret
   exact ⟨zE, zH2 HB.out GE290.out GE291.out⟩

end Go.Proofs.YteooecifecaikaaDoor.ECertSays
