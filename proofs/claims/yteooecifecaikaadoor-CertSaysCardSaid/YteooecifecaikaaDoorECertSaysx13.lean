/- The functions that the law comes to, as plain functions, and for each a proof that the Go code comes to just these answers. Written by a program of this claim. Conditions: each theorem bears its own. -/
import Derived.Test.YteooecifecaikaaDoorECertSaysx0
import Derived.Test.YteooecifecaikaaDoorECertSaysx4
import Derived.Test.YteooecifecaikaaDoorECertSaysx5
import Derived.Test.YteooecifecaikaaDoorECertSaysx10
import Derived.Test.YteooecifecaikaaDoorECertSaysx12
namespace Go.Proofs.YteooecifecaikaaDoor.ECertSays
open Go.RowKit Go.Proofs.YteooecifecaikaaDoorW.PrintWords Go.Proofs.YteooecifecaikaaDoorW.PrintLast Go.Proofs.YteooecifecaikaaDoorW.PrintMore Go.Proofs.YteooecifecaikaaDoorW.PrintOpen
attribute [local go_sem] max2_int min2_int max_two min_two max_three min_three max_four min_four   -- for this text's walks alone
set_option linter.unusedVariables false
set_option linter.unusedSimpArgs false

/-! ### pledgeref1_over: function 44 -/
mutual
def pledgeref1_over.l0 : Nat → Int → Int → Int → Int → Int → Bool → Int → Option (Int × Int × Bool)
 | 0, _, _, _, _, _, _, _ => none
 | k + 1, x0, x1, x2, x9, x10, x11, x12 => if x12 ≥ 0 then (if 0 ≤ (IntKind.u64.wrap (Go.bits .and .i64 x12 63)) then (if x12 ≥ 64 then (if 0 ≤ (IntKind.u64.wrap (wrap64 (x12 - 64))) then (pledgeref1_over.j1 k x0 x1 x2 x9 x10 x11 x12 (x10 / 9223372036854775808) (Go.bits .and .u64 (shr .u64 x0 (IntKind.u64.wrap (wrap64 (x12 - 64)))) 1)) else (none)) else (pledgeref1_over.j1 k x0 x1 x2 x9 x10 x11 x12 (x10 / 9223372036854775808) (Go.bits .and .u64 (shr .u64 x1 (IntKind.u64.wrap (Go.bits .and .i64 x12 63))) 1))) else (none)) else (some (x9, x10, x11))
def pledgeref1_over.j1 : Nat → Int → Int → Int → Int → Int → Bool → Int → Int → Int → Option (Int × Int × Bool)
 | 0, _, _, _, _, _, _, _, _, _ => none
 | k + 1, x0, x1, x2, x9, x10, x11, x12, x13, x14 => if x13 = 1 then (pledgeref1_over.j2 k x0 x1 x2 x9 (Go.bits .or .u64 (IntKind.u64.wrap (x10 * 2)) x14) x11 x12 true) else (pledgeref1_over.j2 k x0 x1 x2 x9 (Go.bits .or .u64 (IntKind.u64.wrap (x10 * 2)) x14) x11 x12 (decide ((Go.bits .or .u64 (IntKind.u64.wrap (x10 * 2)) x14) ≥ x2)))
def pledgeref1_over.j2 : Nat → Int → Int → Int → Int → Int → Bool → Int → Bool → Option (Int × Int × Bool)
 | 0, _, _, _, _, _, _, _, _ => none
 | k + 1, x0, x1, x2, x9, x10, x11, x12, x45 => if x45 = true then (if x12 ≥ 64 then (pledgeref1_over.l0 k x0 x1 x2 x9 (IntKind.u64.wrap (x10 - x2)) false (wrap64 (x12 - 1))) else (if 0 ≤ (IntKind.u64.wrap (x12)) then (pledgeref1_over.l0 k x0 x1 x2 (Go.bits .or .u64 x9 (shl .u64 1 (IntKind.u64.wrap (x12)))) (IntKind.u64.wrap (x10 - x2)) x11 (wrap64 (x12 - 1))) else (none))) else (pledgeref1_over.l0 k x0 x1 x2 x9 x10 x11 (wrap64 (x12 - 1)))
end
def pledgeref1_over.f (k : Nat) (a0 : Int) (a1 : Int) (a2 : Int) : Option (Int × Int × Bool) := pledgeref1_over.l0 k a0 a1 a2 0 0 true 127
theorem pledgeref1_over.mono_l : ∀ k, (∀ y0 y1 y2 y3 y4 y5 y6, LeO (pledgeref1_over.l0 k y0 y1 y2 y3 y4 y5 y6) (pledgeref1_over.l0 (k + 1) y0 y1 y2 y3 y4 y5 y6)) ∧ (∀ y0 y1 y2 y3 y4 y5 y6 y7 y8, LeO (pledgeref1_over.j1 k y0 y1 y2 y3 y4 y5 y6 y7 y8) (pledgeref1_over.j1 (k + 1) y0 y1 y2 y3 y4 y5 y6 y7 y8)) ∧ (∀ y0 y1 y2 y3 y4 y5 y6 y7, LeO (pledgeref1_over.j2 k y0 y1 y2 y3 y4 y5 y6 y7) (pledgeref1_over.j2 (k + 1) y0 y1 y2 y3 y4 y5 y6 y7))
 | 0 => ⟨fun _ _ _ _ _ _ _ r h => by simp [pledgeref1_over.l0] at h, fun _ _ _ _ _ _ _ _ _ r h => by simp [pledgeref1_over.j1] at h, fun _ _ _ _ _ _ _ _ r h => by simp [pledgeref1_over.j2] at h⟩
 | k + 1 => by
  obtain ⟨ih0, ih1, ih2⟩ := pledgeref1_over.mono_l k; refine ⟨?_, ?_, ?_⟩
  ·
   intro y0 y1 y2 y3 y4 y5 y6; unfold pledgeref1_over.l0
   repeat' first
   | (with_reducible exact ih0 _ _ _ _ _ _ _)
   | (with_reducible exact ih1 _ _ _ _ _ _ _ _ _)
   | (with_reducible exact ih2 _ _ _ _ _ _ _ _)
   | (with_reducible exact LeO.refl _)
   | (with_reducible exact LeO.none _)
   | (with_reducible refine LeO.ite ?_ ?_)
   | (with_reducible refine LeO.bind ?_ (fun _ => ?_))
   | exact ih0 _ _ _ _ _ _ _
   | exact ih1 _ _ _ _ _ _ _ _ _
   | exact ih2 _ _ _ _ _ _ _ _
   | exact LeO.none _
   | refine LeO.ite ?_ ?_
   | refine LeO.bind ?_ (fun _ => ?_)
  ·
   intro y0 y1 y2 y3 y4 y5 y6 y7 y8; unfold pledgeref1_over.j1
   repeat' first
   | (with_reducible exact ih0 _ _ _ _ _ _ _)
   | (with_reducible exact ih1 _ _ _ _ _ _ _ _ _)
   | (with_reducible exact ih2 _ _ _ _ _ _ _ _)
   | (with_reducible exact LeO.refl _)
   | (with_reducible exact LeO.none _)
   | (with_reducible refine LeO.ite ?_ ?_)
   | (with_reducible refine LeO.bind ?_ (fun _ => ?_))
   | exact ih0 _ _ _ _ _ _ _
   | exact ih1 _ _ _ _ _ _ _ _ _
   | exact ih2 _ _ _ _ _ _ _ _
   | exact LeO.none _
   | refine LeO.ite ?_ ?_
   | refine LeO.bind ?_ (fun _ => ?_)
  ·
   intro y0 y1 y2 y3 y4 y5 y6 y7; unfold pledgeref1_over.j2
   repeat' first
   | (with_reducible exact ih0 _ _ _ _ _ _ _)
   | (with_reducible exact ih1 _ _ _ _ _ _ _ _ _)
   | (with_reducible exact ih2 _ _ _ _ _ _ _ _)
   | (with_reducible exact LeO.refl _)
   | (with_reducible exact LeO.none _)
   | (with_reducible refine LeO.ite ?_ ?_)
   | (with_reducible refine LeO.bind ?_ (fun _ => ?_))
   | exact ih0 _ _ _ _ _ _ _
   | exact ih1 _ _ _ _ _ _ _ _ _
   | exact ih2 _ _ _ _ _ _ _ _
   | exact LeO.none _
   | refine LeO.ite ?_ ?_
   | refine LeO.bind ?_ (fun _ => ?_)
theorem pledgeref1_over.mono : ∀ a0 a1 a2 k, LeO (pledgeref1_over.f k a0 a1 a2) (pledgeref1_over.f (k + 1) a0 a1 a2) := by
 intro a0 a1 a2 k; obtain ⟨ih0, ih1, ih2⟩ := pledgeref1_over.mono_l k; unfold pledgeref1_over.f
 repeat' first
   | (with_reducible exact ih0 _ _ _ _ _ _ _)
   | (with_reducible exact ih1 _ _ _ _ _ _ _ _ _)
   | (with_reducible exact ih2 _ _ _ _ _ _ _ _)
   | (with_reducible exact LeO.refl _)
   | (with_reducible exact LeO.none _)
   | (with_reducible refine LeO.ite ?_ ?_)
   | (with_reducible refine LeO.bind ?_ (fun _ => ?_))
   | exact ih0 _ _ _ _ _ _ _
   | exact ih1 _ _ _ _ _ _ _ _ _
   | exact ih2 _ _ _ _ _ _ _ _
   | exact LeO.none _
   | refine LeO.ite ?_ ?_
   | refine LeO.bind ?_ (fun _ => ?_)
set_option maxHeartbeats 8000000 in
set_option maxRecDepth 100000 in
theorem pledgeref1_over.calls [Inhabited (Int → Addr)] (k : Nat) (a0 : Int) (a1 : Int) (a2 : Int) (r1 : Int) (r2 : Int) (r3 : Bool) (w : World) (h : pledgeref1_over.f k a0 a1 a2 = some (r1, r2, r3)) :
  Calls Tryd.prog 44 #[.int .u64 a0, .int .u64 a1, .int .u64 a2] w fun e w' => e = .returned (.tuple #[.int .u64 r1, .int .u64 r2, .bool r3]) ∧ Drawn0 w w' := by
 have H : (pledgeref1_over.l0 k a0 a1 a2 0 0 true 127) = some (r1, r2, r3) := h; clear h; have H' := Aside0.mk H; clear H
 go_enter Tryd.func44, Tryd.ntmps44
 go_wp2
 go_loopg [9, 10, 11, 12] k (fun kq v9 v10 v11 v12 w' => ∃ (x9_1 : Int) (x10_1 : Int) (x11_1 : Bool) (x12_1 : Int), v9 = .int .u64 x9_1 ∧ v10 = .int .u64 x10_1 ∧ v11 = .bool x11_1 ∧ v12 = .int .i64 x12_1 ∧ Aside0 (pledgeref1_over.l0 kq a0 a1 a2 x9_1 x10_1 x11_1 x12_1 = some (r1, r2, r3)) ∧ Aside0 (kq ≤ k) ∧ Drawn0 w w')
 case atStart => exact ⟨(0), (0), (true), (127), zS, zS, zS, zS, H', ⟨Nat.le_refl _⟩, zD⟩
 case round =>
  clear H'
  try clear p2
  obtain ⟨x9_1, x10_1, x11_1, x12_1, rfl, rfl, rfl, rfl, HA, HK1, ⟨m1, rfl⟩⟩ := hrel
  cases gk with
  | zero => exact absurd HA.out (by simp [pledgeref1_over.l0])
  | succ k1 =>
   have H := HA.out; clear HA; simp only [pledgeref1_over.l0] at H; by_cases c4 : x12_1 ≥ 0
   ·
    rw [if_pos c4] at H; have c4b0 : decide (0 ≤ x12_1) = true := decide_eq_true c4; clear c4; obtain ⟨ji5, hji5⟩ : ∃ j_ : Int, (IntKind.u64.wrap (Go.bits .and .i64 x12_1 63)) = j_ := ⟨_, rfl⟩; replace H : (if 0 ≤ (ji5) then (if x12_1 ≥ 64 then (if 0 ≤ (IntKind.u64.wrap (wrap64 (x12_1 - 64))) then (pledgeref1_over.j1 k1 a0 a1 a2 x9_1 x10_1 x11_1 x12_1 (x10_1 / 9223372036854775808) (Go.bits .and .u64 (shr .u64 a0 (IntKind.u64.wrap (wrap64 (x12_1 - 64)))) 1)) else (none)) else (pledgeref1_over.j1 k1 a0 a1 a2 x9_1 x10_1 x11_1 x12_1 (x10_1 / 9223372036854775808) (Go.bits .and .u64 (shr .u64 a1 (ji5)) 1))) else (none)) = some (r1, r2, r3) := by first | (rw [hji5] at H; exact H) | (simp only [hji5] at H ⊢; exact H)
    by_cases c6 : 0 ≤ (ji5)
    ·
     rw [if_pos c6] at H; have c6b0 := eq_true c6; have c6b1 : decide (0 ≤ (ji5)) = true := decide_eq_true c6; clear c6; obtain ⟨ji7, hji7⟩ : ∃ j_ : Int, (shr .u64 a1 (ji5)) = j_ := ⟨_, rfl⟩; replace H : (if x12_1 ≥ 64 then (if 0 ≤ (IntKind.u64.wrap (wrap64 (x12_1 - 64))) then (pledgeref1_over.j1 k1 a0 a1 a2 x9_1 x10_1 x11_1 x12_1 (x10_1 / 9223372036854775808) (Go.bits .and .u64 (shr .u64 a0 (IntKind.u64.wrap (wrap64 (x12_1 - 64)))) 1)) else (none)) else (pledgeref1_over.j1 k1 a0 a1 a2 x9_1 x10_1 x11_1 x12_1 (x10_1 / 9223372036854775808) (Go.bits .and .u64 (ji7) 1))) = some (r1, r2, r3) := by first | (rw [hji7] at H; exact H) | (simp only [hji7] at H ⊢; exact H)
     have hji7_ : (a1 / 2 ^ min (ji5).toNat 64) = ji7 := hji7; have hji7z : (ji5) ≤ 64 → (a1 / 2 ^ (ji5).toNat) = ji7 := shr_small hji7; have HC8 := Aside0.mk H; clear H
     go_upto_if 28 with (fail)
     go_cut [14] (fun v14 wc => ∃ (kq : Nat) (x14_7 : Int), v14 = .int .u64 x14_7 ∧ Aside0 (pledgeref1_over.j1 kq a0 a1 a2 x9_1 x10_1 x11_1 x12_1 (x10_1 / 9223372036854775808) x14_7 = some (r1, r2, r3)) ∧ Aside0 (kq ≤ k1) ∧ Drawn0 w wc)
     case first =>
      have H := HC8.out; clear HC8; by_cases c9 : x12_1 ≥ 64
      ·
       rw [if_pos c9] at H; have c9b0 : decide (64 ≤ x12_1) = true := decide_eq_true c9; clear c9
       (first | rw [c9b0] | (simp only [i64_w, i32_w]; rw [c9b0]) | skip)
       obtain ⟨ji10, hji10⟩ : ∃ j_ : Int, (IntKind.u64.wrap (wrap64 (x12_1 - 64))) = j_ := ⟨_, rfl⟩; replace H : (if 0 ≤ (ji10) then (pledgeref1_over.j1 k1 a0 a1 a2 x9_1 x10_1 x11_1 x12_1 (x10_1 / 9223372036854775808) (Go.bits .and .u64 (shr .u64 a0 (ji10)) 1)) else (none)) = some (r1, r2, r3) := by first | (rw [hji10] at H; exact H) | (simp only [hji10] at H ⊢; exact H)
       by_cases c11 : 0 ≤ (ji10)
       ·
        rw [if_pos c11] at H; have c11b0 := eq_true c11; have c11b1 : decide (0 ≤ (ji10)) = true := decide_eq_true c11; clear c11; obtain ⟨ji12, hji12⟩ : ∃ j_ : Int, (shr .u64 a0 (ji10)) = j_ := ⟨_, rfl⟩; replace H : (pledgeref1_over.j1 k1 a0 a1 a2 x9_1 x10_1 x11_1 x12_1 (x10_1 / 9223372036854775808) (Go.bits .and .u64 (ji12) 1)) = some (r1, r2, r3) := by first | (rw [hji12] at H; exact H) | (simp only [hji12] at H ⊢; exact H)
        have hji12_ : (a0 / 2 ^ min (ji10).toNat 64) = ji12 := hji12; have hji12z : (ji10) ≤ 64 → (a0 / 2 ^ (ji10).toNat) = ji12 := shr_small hji12; have H' := Aside0.mk H; clear H
        go_wp2
        go_meet
        case rel => exact ⟨_, (Go.bits .and .u64 (ji12) 1), (by first | rfl | (simp; done) | (simp only [← hji12] <;> (first | rfl | simp)) | (simp [*]; done)), H', ⟨by have := HK1.out; first | omega | exact Nat.le_refl _⟩, zD⟩
       ·
        rw [if_neg c11] at H; exact absurd H (by simp)
      ·
       rw [if_neg c9] at H; have c9b0 : decide (64 ≤ x12_1) = false := decide_eq_false c9; clear c9
       (first | rw [c9b0] | (simp only [i64_w, i32_w]; rw [c9b0]) | skip)
       have H' := Aside0.mk H; clear H
       go_wp2
       go_meet
       case rel => exact ⟨_, (Go.bits .and .u64 (ji7) 1), (by first | rfl | (simp; done) | (simp only [← hji7] <;> (first | rfl | simp)) | (simp [*]; done)), H', ⟨by have := HK1.out; first | omega | exact Nat.le_refl _⟩, zD⟩
     case rest =>
      clear HC8
      try clear c1
      try clear p2
      try clear c4
      try clear c4b0
      try clear c6
      try clear c6b0
      try clear c6b1
      try clear p6
      try clear c9
      try clear c9b0
      try clear c11
      try clear c11b0
      try clear c11b1
      try clear p2
      obtain ⟨kq, x14_7, rfl, HA, HJ7, ⟨mc7, rfl⟩⟩ := hcut
      cases kq with
      | zero => exact absurd HA.out (by simp [pledgeref1_over.j1])
      | succ kj7 =>
       have H := HA.out; clear HA; simp only [pledgeref1_over.j1] at H; have HC13 := Aside0.mk H; clear H
       go_upto_region 12 with (fail)
       go_cut [45] (fun v45 wc => ∃ (kq : Nat) (x45_12 : Bool), v45 = .bool x45_12 ∧ Aside0 (pledgeref1_over.j2 kq a0 a1 a2 x9_1 (Go.bits .or .u64 (IntKind.u64.wrap (x10_1 * 2)) x14_7) x11_1 x12_1 x45_12 = some (r1, r2, r3)) ∧ Aside0 (kq ≤ kj7) ∧ Drawn0 w wc)
       case first =>
        have H := HC13.out; clear HC13; by_cases c14 : (x10_1 / 9223372036854775808) = 1
        ·
         rw [if_pos c14] at H; have c14b0 : ((x10_1 / 9223372036854775808) == 1) = true := beq_iff_eq.mpr c14; have c14b1 : ((x10_1 / 9223372036854775808) != 1) = false := bne_eq_false_iff_eq.mpr c14; clear c14
         (first | rw [c14b0] | (simp only [i64_w, i32_w]; rw [c14b0]) | skip)
         have H' := Aside0.mk H; clear H
         go_wp2
         go_meet
         case rel => exact ⟨_, (true), zS, H', ⟨by have := HK1.out; have := HJ7.out; first | omega | exact Nat.le_refl _⟩, zD⟩
        ·
         rw [if_neg c14] at H; have c14b0 : ((x10_1 / 9223372036854775808) == 1) = false := beq_eq_false_iff_ne.mpr c14; have c14b1 : ((x10_1 / 9223372036854775808) != 1) = true := bne_iff_ne.mpr c14
         (first | rw [c14b0] | (simp only [i64_w, i32_w]; rw [c14b0]) | skip)
         have H' := Aside0.mk H; clear H
         go_wp2
         go_meet
         case rel => exact ⟨_, (decide ((Go.bits .or .u64 (IntKind.u64.wrap (x10_1 * 2)) x14_7) ≥ a2)), zS, H', ⟨by have := HK1.out; have := HJ7.out; first | omega | exact Nat.le_refl _⟩, zD⟩
       case rest =>
        clear HC13
        try clear c1
        try clear p2
        try clear c4
        try clear c4b0
        try clear c6
        try clear c6b0
        try clear c6b1
        try clear p6
        try clear c7
        try clear c9
        try clear c9b0
        try clear c11
        try clear c11b0
        try clear c11b1
        try clear c14
        try clear c14b0
        try clear c14b1
        try clear p2
        try clear p6
        obtain ⟨kq, x45_12, rfl, HA, HJ12, ⟨mc12, rfl⟩⟩ := hcut
        cases kq with
        | zero => exact absurd HA.out (by simp [pledgeref1_over.j2])
        | succ kj12 =>
         have H := HA.out; clear HA; simp only [pledgeref1_over.j2] at H; by_cases c15 : x45_12 = true
         ·
          subst c15; have H1 : (if x12_1 ≥ 64 then (pledgeref1_over.l0 kj12 a0 a1 a2 x9_1 (IntKind.u64.wrap ((Go.bits .or .u64 (IntKind.u64.wrap (x10_1 * 2)) x14_7) - a2)) false (wrap64 (x12_1 - 1))) else (if 0 ≤ (IntKind.u64.wrap (x12_1)) then (pledgeref1_over.l0 kj12 a0 a1 a2 (Go.bits .or .u64 x9_1 (shl .u64 1 (IntKind.u64.wrap (x12_1)))) (IntKind.u64.wrap ((Go.bits .or .u64 (IntKind.u64.wrap (x10_1 * 2)) x14_7) - a2)) x11_1 (wrap64 (x12_1 - 1))) else (none))) = some (r1, r2, r3) := by rw [if_pos rfl] at H; exact H
          clear H; have H := H1; clear H1; by_cases c16 : x12_1 ≥ 64
          ·
           rw [if_pos c16] at H; have c16b0 : decide (64 ≤ x12_1) = true := decide_eq_true c16; clear c16; have H' := Aside0.mk H; clear H
           go_wp2
           go_roundg kj12
           case measure => have := HK1.out; have := HJ7.out; have := HJ12.out; omega
           case rel => exact ⟨(x9_1), (IntKind.u64.wrap ((Go.bits .or .u64 (IntKind.u64.wrap (x10_1 * 2)) x14_7) - a2)), (false), (wrap64 (x12_1 - 1)), zS, zS, zS, zS, H', ⟨by have := HK1.out; have := HJ7.out; have := HJ12.out; omega⟩, zD⟩
          ·
           rw [if_neg c16] at H; have c16b0 : decide (64 ≤ x12_1) = false := decide_eq_false c16; clear c16; obtain ⟨ji17, hji17⟩ : ∃ j_ : Int, (IntKind.u64.wrap (x12_1)) = j_ := ⟨_, rfl⟩; replace H : (if 0 ≤ (ji17) then (pledgeref1_over.l0 kj12 a0 a1 a2 (Go.bits .or .u64 x9_1 (shl .u64 1 (ji17))) (IntKind.u64.wrap ((Go.bits .or .u64 (IntKind.u64.wrap (x10_1 * 2)) x14_7) - a2)) x11_1 (wrap64 (x12_1 - 1))) else (none)) = some (r1, r2, r3) := by first | (rw [hji17] at H; exact H) | (simp only [hji17] at H ⊢; exact H)
           by_cases c18 : 0 ≤ (ji17)
           ·
            rw [if_pos c18] at H; have c18b0 := eq_true c18; have c18b1 : decide (0 ≤ (ji17)) = true := decide_eq_true c18; clear c18; obtain ⟨ji19, hji19⟩ : ∃ j_ : Int, (shl .u64 1 (ji17)) = j_ := ⟨_, rfl⟩; replace H : (pledgeref1_over.l0 kj12 a0 a1 a2 (Go.bits .or .u64 x9_1 (ji19)) (IntKind.u64.wrap ((Go.bits .or .u64 (IntKind.u64.wrap (x10_1 * 2)) x14_7) - a2)) x11_1 (wrap64 (x12_1 - 1))) = some (r1, r2, r3) := by first | (rw [hji19] at H; exact H) | (simp only [hji19] at H ⊢; exact H)
            have hji19_ : (IntKind.u64.wrap (1 * 2 ^ min (ji17).toNat 64)) = ji19 := hji19; have hji19z : (ji17) ≤ 64 → (IntKind.u64.wrap (1 * 2 ^ (ji17).toNat)) = ji19 := shl_small hji19; have hji19u : (IntKind.u64.wrap (2 ^ min (ji17).toNat 64)) = ji19 := by have h_ := hji19_; rw [Int.one_mul] at h_; exact h_
            have hji19v : (ji17) ≤ 64 → (IntKind.u64.wrap (2 ^ (ji17).toNat)) = ji19 := fun hle_ => by have h_ := hji19z hle_; rw [Int.one_mul] at h_; exact h_
            have H' := Aside0.mk H; clear H
            go_wp2
            go_roundg kj12
            case measure => have := HK1.out; have := HJ7.out; have := HJ12.out; omega
            case rel => exact ⟨(Go.bits .or .u64 x9_1 (ji19)), (IntKind.u64.wrap ((Go.bits .or .u64 (IntKind.u64.wrap (x10_1 * 2)) x14_7) - a2)), (x11_1), (wrap64 (x12_1 - 1)), (by first | rfl | (simp; done) | (simp only [← hji19] <;> (first | rfl | simp)) | (simp [*]; done)), zS, zS, zS, H', ⟨by have := HK1.out; have := HJ7.out; have := HJ12.out; omega⟩, zD⟩
           ·
            rw [if_neg c18] at H; exact absurd H (by simp)
         ·
          replace c15 := Bool.eq_false_iff.mpr c15; subst c15; have H1 : (pledgeref1_over.l0 kj12 a0 a1 a2 x9_1 (Go.bits .or .u64 (IntKind.u64.wrap (x10_1 * 2)) x14_7) x11_1 (wrap64 (x12_1 - 1))) = some (r1, r2, r3) := by rw [if_neg (show ¬ (false = true) by decide)] at H; exact H
          clear H; have H := H1; clear H1; have H' := Aside0.mk H; clear H
          go_wp2
          go_roundg kj12
          case measure => have := HK1.out; have := HJ7.out; have := HJ12.out; omega
          case rel => exact ⟨(x9_1), ((Go.bits .or .u64 (IntKind.u64.wrap (x10_1 * 2)) x14_7)), (x11_1), (wrap64 (x12_1 - 1)), zS, zS, zS, zS, H', ⟨by have := HK1.out; have := HJ7.out; have := HJ12.out; omega⟩, zD⟩
    ·
     rw [if_neg c6] at H; exact absurd H (by simp)
   ·
    rw [if_neg c4] at H; have c4b0 : decide (0 ≤ x12_1) = false := decide_eq_false c4; clear c4; simp only [Option.some.injEq, Prod.mk.injEq] at H; obtain ⟨rfl, rfl, rfl⟩ := H
    go_wp2
    go_ret3
    exact ⟨zF, zD⟩

/-! ### pledgeref1_signed: function 45 -/
def pledgeref1_signed.f (a0 : Bool) (a1 : Int) : Option (Int × Bool) := if a0 = true then (if a1 > 9223372036854775808 then (some (0, false)) else (if a1 = 0 then (some (0, true)) else (some (wrap64 ((wrap64 (-(wrap64 (IntKind.u64.wrap (a1 - 1))))) - 1), true)))) else (if a1 > 9223372036854775807 then (some (0, false)) else (some (wrap64 (a1), true)))
set_option maxHeartbeats 8000000 in
set_option maxRecDepth 100000 in
theorem pledgeref1_signed.calls [Inhabited (Int → Addr)] (a0 : Bool) (a1 : Int) (r1 : Int) (r2 : Bool) (w : World) (h : pledgeref1_signed.f a0 a1 = some (r1, r2)) :
    Calls Tryd.prog 45 #[.bool a0, .int .u64 a1] w fun e w' => e = .returned (.tuple #[.int .i64 r1, .bool r2]) ∧ Drawn0 w w' := by
  have H : (if a0 = true then (if a1 > 9223372036854775808 then (some (0, false)) else (if a1 = 0 then (some (0, true)) else (some (wrap64 ((wrap64 (-(wrap64 (IntKind.u64.wrap (a1 - 1))))) - 1), true)))) else (if a1 > 9223372036854775807 then (some (0, false)) else (some (wrap64 (a1), true)))) = some (r1, r2) := h; clear h; by_cases c3 : a0 = true
  · subst c3
    have H1 : (if a1 > 9223372036854775808 then (some (0, false)) else (if a1 = 0 then (some (0, true)) else (some (wrap64 ((wrap64 (-(wrap64 (IntKind.u64.wrap (a1 - 1))))) - 1), true)))) = some (r1, r2) := by rw [if_pos rfl] at H; exact H
    clear H; have H := H1; clear H1; by_cases c4 : a1 > 9223372036854775808
    · rw [if_pos c4] at H
      have c4b0 : decide (9223372036854775808 < a1) = true := decide_eq_true c4; clear c4; simp only [Option.some.injEq, Prod.mk.injEq] at H; obtain ⟨rfl, rfl⟩ := H
      go_enter Tryd.func45, Tryd.ntmps45
      go_wp2
      go_ret2
      exact ⟨zF, zD⟩
    · rw [if_neg c4] at H
      have c4b0 : decide (9223372036854775808 < a1) = false := decide_eq_false c4; clear c4; by_cases c5 : a1 = 0
      · rw [if_pos c5] at H
        have c5b0 : (a1 == 0) = true := beq_iff_eq.mpr c5; have c5b1 : (a1 != 0) = false := bne_eq_false_iff_eq.mpr c5; clear c5; simp only [Option.some.injEq, Prod.mk.injEq] at H; obtain ⟨rfl, rfl⟩ := H
        go_enter Tryd.func45, Tryd.ntmps45
        go_wp2
        go_ret2
        exact ⟨zF, zD⟩
      · rw [if_neg c5] at H
        have c5b0 : (a1 == 0) = false := beq_eq_false_iff_ne.mpr c5; have c5b1 : (a1 != 0) = true := bne_iff_ne.mpr c5; simp only [Option.some.injEq, Prod.mk.injEq] at H; obtain ⟨rfl, rfl⟩ := H
        go_enter Tryd.func45, Tryd.ntmps45
        go_wp2
        go_ret2
        exact ⟨zF, zD⟩
  · replace c3 := Bool.eq_false_iff.mpr c3
    subst c3; have H1 : (if a1 > 9223372036854775807 then (some (0, false)) else (some (wrap64 (a1), true))) = some (r1, r2) := by rw [if_neg (show ¬ (false = true) by decide)] at H; exact H
    clear H; have H := H1; clear H1; by_cases c6 : a1 > 9223372036854775807
    · rw [if_pos c6] at H
      have c6b0 : decide (9223372036854775807 < a1) = true := decide_eq_true c6; clear c6; simp only [Option.some.injEq, Prod.mk.injEq] at H; obtain ⟨rfl, rfl⟩ := H
      go_enter Tryd.func45, Tryd.ntmps45
      go_wp2
      go_ret2
      exact ⟨zF, zD⟩
    · rw [if_neg c6] at H
      have c6b0 : decide (9223372036854775807 < a1) = false := decide_eq_false c6; clear c6; simp only [Option.some.injEq, Prod.mk.injEq] at H; obtain ⟨rfl, rfl⟩ := H
      go_enter Tryd.func45, Tryd.ntmps45
      go_wp2
      go_ret2
      exact ⟨zF, zD⟩

/-! ### pledgeref1_Div: function 25 -/
def pledgeref1_Div.j0 : Nat → Bool → Int → Bool → Option (Int × Bool)
 | 0, _, _, _ => none
 | k + 1, x12, x13, x48 => if x48 = true then (if x13 = 18446744073709551615 then (some (0, false)) else ((pledgeref1_signed.f x12 (IntKind.u64.wrap (x13 + 1))).bind fun bt308 => (some (bt308.1, bt308.2)))) else ((pledgeref1_signed.f x12 x13).bind fun bt310 => (some (bt310.1, bt310.2)))
def pledgeref1_Div.f (k : Nat) (a0 : Int) (a1 : Int) (a2 : Int) (a3 : Bool) : Option (Int × Bool) := if a2 ≤ 0 then (some (0, false)) else ((pledgeref1_size.f a0).bind fun t301 => ((pledgeref1_size.f a1).bind fun t302 => ((pledgeref1_Wide.f t301 t302).bind fun bt303 => ((pledgeref1_over.f k bt303.1 bt303.2 (IntKind.u64.wrap (a2))).bind fun bt305 => (if bt305.2.2 = true then (if bt305.2.1 = 0 then (pledgeref1_Div.j0 k ((decide (a0 < 0)) != (decide (a1 < 0))) bt305.1 false) else (pledgeref1_Div.j0 k ((decide (a0 < 0)) != (decide (a1 < 0))) bt305.1 (a3 != ((decide (a0 < 0)) != (decide (a1 < 0)))))) else (some (0, false)))))))
theorem pledgeref1_Div.mono_l : ∀ k, (∀ y0 y1 y2, LeO (pledgeref1_Div.j0 k y0 y1 y2) (pledgeref1_Div.j0 (k + 1) y0 y1 y2))
 | 0 => fun _ _ _ r h => by simp [pledgeref1_Div.j0] at h
 | k + 1 => by
  have ih0 := pledgeref1_Div.mono_l k
  ·
   intro y0 y1 y2; unfold pledgeref1_Div.j0
   repeat' first
   | (with_reducible exact ih0 _ _ _)
   | (with_reducible exact pledgeref1_over.mono _ _ _ _)
   | (with_reducible exact LeO.refl _)
   | (with_reducible exact LeO.none _)
   | (with_reducible refine LeO.ite ?_ ?_)
   | (with_reducible refine LeO.bind ?_ (fun _ => ?_))
   | exact ih0 _ _ _
   | exact pledgeref1_over.mono _ _ _ _
   | exact LeO.none _
   | refine LeO.ite ?_ ?_
   | refine LeO.bind ?_ (fun _ => ?_)
theorem pledgeref1_Div.mono : ∀ a0 a1 a2 a3 k, LeO (pledgeref1_Div.f k a0 a1 a2 a3) (pledgeref1_Div.f (k + 1) a0 a1 a2 a3) := by
 intro a0 a1 a2 a3 k; have ih0 := pledgeref1_Div.mono_l k; unfold pledgeref1_Div.f
 repeat' first
   | (with_reducible exact ih0 _ _ _)
   | (with_reducible exact pledgeref1_over.mono _ _ _ _)
   | (with_reducible exact LeO.refl _)
   | (with_reducible exact LeO.none _)
   | (with_reducible refine LeO.ite ?_ ?_)
   | (with_reducible refine LeO.bind ?_ (fun _ => ?_))
   | exact ih0 _ _ _
   | exact pledgeref1_over.mono _ _ _ _
   | exact LeO.none _
   | refine LeO.ite ?_ ?_
   | refine LeO.bind ?_ (fun _ => ?_)
set_option maxHeartbeats 8000000 in
set_option maxRecDepth 100000 in
theorem pledgeref1_Div.calls [Inhabited (Int → Addr)] (k : Nat) (a0 : Int) (a1 : Int) (a2 : Int) (a3 : Bool) (r1 : Int) (r2 : Bool) (w : World) (h : pledgeref1_Div.f k a0 a1 a2 a3 = some (r1, r2)) :
  Calls Tryd.prog 25 #[.int .i64 a0, .int .i64 a1, .int .i64 a2, .bool a3] w fun e w' => e = .returned (.tuple #[.int .i64 r1, .bool r2]) ∧ Drawn0 w w' := by
 have H : (if a2 ≤ 0 then (some (0, false)) else ((pledgeref1_size.f a0).bind fun t301 => ((pledgeref1_size.f a1).bind fun t302 => ((pledgeref1_Wide.f t301 t302).bind fun bt303 => ((pledgeref1_over.f k bt303.1 bt303.2 (IntKind.u64.wrap (a2))).bind fun bt305 => (if bt305.2.2 = true then (if bt305.2.1 = 0 then (pledgeref1_Div.j0 k ((decide (a0 < 0)) != (decide (a1 < 0))) bt305.1 false) else (pledgeref1_Div.j0 k ((decide (a0 < 0)) != (decide (a1 < 0))) bt305.1 (a3 != ((decide (a0 < 0)) != (decide (a1 < 0)))))) else (some (0, false)))))))) = some (r1, r2) := h; clear h; by_cases c5 : a2 ≤ 0
 ·
  rw [if_pos c5] at H; have c5b0 : decide (a2 ≤ 0) = true := decide_eq_true c5; clear c5; simp only [Option.some.injEq, Prod.mk.injEq] at H; obtain ⟨rfl, rfl⟩ := H
  go_enter Tryd.func25, Tryd.ntmps25
  go_wp2
  go_ret2
  exact ⟨zF, zD⟩
 ·
  rw [if_neg c5] at H; have c5b0 : decide (a2 ≤ 0) = false := decide_eq_false c5; clear c5; replace H := Option.bind_eq_some_iff.mp H; obtain ⟨t301, A60, H⟩ := H; replace H : ((pledgeref1_size.f a1).bind fun t302 => ((pledgeref1_Wide.f t301 t302).bind fun bt303 => ((pledgeref1_over.f k bt303.1 bt303.2 (IntKind.u64.wrap (a2))).bind fun bt305 => (if bt305.2.2 = true then (if bt305.2.1 = 0 then (pledgeref1_Div.j0 k ((decide (a0 < 0)) != (decide (a1 < 0))) bt305.1 false) else (pledgeref1_Div.j0 k ((decide (a0 < 0)) != (decide (a1 < 0))) bt305.1 (a3 != ((decide (a0 < 0)) != (decide (a1 < 0)))))) else (some (0, false)))))) = some (r1, r2) := H; have A6 := Aside0.mk A60; clear A60; replace H := Option.bind_eq_some_iff.mp H; obtain ⟨t302, A70, H⟩ := H; replace H : ((pledgeref1_Wide.f t301 t302).bind fun bt303 => ((pledgeref1_over.f k bt303.1 bt303.2 (IntKind.u64.wrap (a2))).bind fun bt305 => (if bt305.2.2 = true then (if bt305.2.1 = 0 then (pledgeref1_Div.j0 k ((decide (a0 < 0)) != (decide (a1 < 0))) bt305.1 false) else (pledgeref1_Div.j0 k ((decide (a0 < 0)) != (decide (a1 < 0))) bt305.1 (a3 != ((decide (a0 < 0)) != (decide (a1 < 0)))))) else (some (0, false))))) = some (r1, r2) := H; have A7 := Aside0.mk A70; clear A70; replace H := Option.bind_eq_some_iff.mp H; obtain ⟨⟨t303, t304⟩, A80, H⟩ := H; replace H : ((pledgeref1_over.f k t303 t304 (IntKind.u64.wrap (a2))).bind fun bt305 => (if bt305.2.2 = true then (if bt305.2.1 = 0 then (pledgeref1_Div.j0 k ((decide (a0 < 0)) != (decide (a1 < 0))) bt305.1 false) else (pledgeref1_Div.j0 k ((decide (a0 < 0)) != (decide (a1 < 0))) bt305.1 (a3 != ((decide (a0 < 0)) != (decide (a1 < 0)))))) else (some (0, false)))) = some (r1, r2) := H; have A8 := Aside0.mk A80; clear A80; replace H := Option.bind_eq_some_iff.mp H; obtain ⟨⟨t305, t306, t307⟩, A90, H⟩ := H; replace H : (if t307 = true then (if t306 = 0 then (pledgeref1_Div.j0 k ((decide (a0 < 0)) != (decide (a1 < 0))) t305 false) else (pledgeref1_Div.j0 k ((decide (a0 < 0)) != (decide (a1 < 0))) t305 (a3 != ((decide (a0 < 0)) != (decide (a1 < 0)))))) else (some (0, false))) = some (r1, r2) := H; have A9 := Aside0.mk A90; clear A90; by_cases c10 : t307 = true
  ·
   subst c10; have H1 : (if t306 = 0 then (pledgeref1_Div.j0 k ((decide (a0 < 0)) != (decide (a1 < 0))) t305 false) else (pledgeref1_Div.j0 k ((decide (a0 < 0)) != (decide (a1 < 0))) t305 (a3 != ((decide (a0 < 0)) != (decide (a1 < 0)))))) = some (r1, r2) := by rw [if_pos rfl] at H; exact H
   clear H; have H := H1; clear H1; have HC11 := Aside0.mk H; clear H
   go_enter Tryd.func25, Tryd.ntmps25
   go_upto_region 8 with (first | ((with_reducible refine gate_callee (f := 43) rfl ?_); refine goesL_ (some 20) rfl rfl Tryd.func43 (by kernel_rfl) rfl #[.int .i64 a0] rfl zM ?_; (with_reducible refine (pledgeref1_size.calls a0 t301 _ A6.out).mono ?_); rintro e w' ⟨rfl, ⟨nd, rfl⟩⟩; refine ⟨_, rfl, ?_⟩) | ((with_reducible refine gate_callee (f := 43) rfl ?_); refine goesL_ (some 22) rfl rfl Tryd.func43 (by kernel_rfl) rfl #[.int .i64 a1] rfl zM ?_; (with_reducible refine (pledgeref1_size.calls a1 t302 _ A7.out).mono ?_); rintro e w' ⟨rfl, ⟨nd, rfl⟩⟩; refine ⟨_, rfl, ?_⟩) | ((with_reducible refine gate_callee (f := 42) rfl ?_); refine goesL_ (some 23) rfl rfl Tryd.func42 (by kernel_rfl) rfl #[.int .u64 t301, .int .u64 t302] rfl zM ?_; (with_reducible refine (pledgeref1_Wide.calls t301 t302 t303 t304 _ A8.out).mono ?_); rintro e w' ⟨rfl, ⟨nd, rfl⟩⟩; refine ⟨_, rfl, ?_⟩) | ((with_reducible refine gate_callee (f := 44) rfl ?_); refine goesL_ (some 36) rfl rfl Tryd.func44 (by kernel_rfl) rfl #[.int .u64 t303, .int .u64 t304, .int .u64 (IntKind.u64.wrap (a2))] rfl zM ?_; (with_reducible refine (pledgeref1_over.calls k t303 t304 (IntKind.u64.wrap (a2)) t305 t306 true _ A9.out).mono ?_); rintro e w' ⟨rfl, ⟨nd, rfl⟩⟩; refine ⟨_, rfl, ?_⟩))
   (try simp only [Act.put, zq1, zq2, zq3])
   go_cut [48] (fun v48 wc => ∃ (kq : Nat) (x48_10 : Bool), v48 = .bool x48_10 ∧ Aside0 (pledgeref1_Div.j0 kq ((decide (a0 < 0)) != (decide (a1 < 0))) t305 x48_10 = some (r1, r2)) ∧ Aside0 (kq ≤ k) ∧ Drawn0 w wc)
   case first =>
    have H := HC11.out; clear HC11; by_cases c12 : t306 = 0
    ·
     rw [if_pos c12] at H; have c12b0 : (t306 == 0) = true := beq_iff_eq.mpr c12; have c12b1 : (t306 != 0) = false := bne_eq_false_iff_eq.mpr c12; clear c12
     (first | rw [c12b0] | (simp only [i64_w, i32_w]; rw [c12b0]) | skip)
     have H' := Aside0.mk H; clear H
     go_wp2
     go_meet
     case rel => exact ⟨_, (false), zS, H', ⟨by first | omega | exact Nat.le_refl _⟩, zD⟩
    ·
     rw [if_neg c12] at H; have c12b0 : (t306 == 0) = false := beq_eq_false_iff_ne.mpr c12; have c12b1 : (t306 != 0) = true := bne_iff_ne.mpr c12
     (first | rw [c12b0] | (simp only [i64_w, i32_w]; rw [c12b0]) | skip)
     have H' := Aside0.mk H; clear H
     go_wp2
     go_meet
     case rel => exact ⟨_, ((a3 != ((decide (a0 < 0)) != (decide (a1 < 0))))), zS, H', ⟨by first | omega | exact Nat.le_refl _⟩, zD⟩
   case rest =>
    clear HC11
    try clear c1
    try clear c2
    try clear p2
    try clear c4
    try clear c5
    try clear c5b0
    try clear p6
    try clear c10
    try clear c12
    try clear c12b0
    try clear c12b1
    obtain ⟨kq, x48_10, rfl, HA, HJ10, ⟨mc10, rfl⟩⟩ := hcut
    cases kq with
    | zero => exact absurd HA.out (by simp [pledgeref1_Div.j0])
    | succ kj10 =>
     have H := HA.out; clear HA; simp only [pledgeref1_Div.j0] at H; by_cases c13 : x48_10 = true
     ·
      subst c13; have H1 : (if t305 = 18446744073709551615 then (some (0, false)) else ((pledgeref1_signed.f ((decide (a0 < 0)) != (decide (a1 < 0))) (IntKind.u64.wrap (t305 + 1))).bind fun bt308 => (some (bt308.1, bt308.2)))) = some (r1, r2) := by rw [if_pos rfl] at H; exact H
      clear H; have H := H1; clear H1; by_cases c14 : t305 = 18446744073709551615
      ·
       rw [if_pos c14] at H; have c14b0 : (t305 == 18446744073709551615) = true := beq_iff_eq.mpr c14; have c14b1 : (t305 != 18446744073709551615) = false := bne_eq_false_iff_eq.mpr c14; clear c14; simp only [Option.some.injEq, Prod.mk.injEq] at H; obtain ⟨rfl, rfl⟩ := H
       go_wp2
       go_ret2
       exact ⟨zF, zD⟩
      ·
       rw [if_neg c14] at H; have c14b0 : (t305 == 18446744073709551615) = false := beq_eq_false_iff_ne.mpr c14; have c14b1 : (t305 != 18446744073709551615) = true := bne_iff_ne.mpr c14; replace H := Option.bind_eq_some_iff.mp H; obtain ⟨⟨t308, t309⟩, A150, H⟩ := H; replace H : (some (t308, t309)) = some (r1, r2) := H; have A15 := Aside0.mk A150; clear A150; simp only [Option.some.injEq, Prod.mk.injEq] at H; obtain ⟨rfl, rfl⟩ := H
       go_wp2_with (first | ((with_reducible refine gate_callee (f := 45) rfl ?_); refine goesL_ (some 55) rfl rfl Tryd.func45 (by kernel_rfl) rfl #[.bool ((decide (a0 < 0)) != (decide (a1 < 0))), .int .u64 (IntKind.u64.wrap (t305 + 1))] rfl zM ?_; (with_reducible refine (pledgeref1_signed.calls ((decide (a0 < 0)) != (decide (a1 < 0))) (IntKind.u64.wrap (t305 + 1)) t308 t309 _ A15.out).mono ?_); rintro e w' ⟨rfl, ⟨nd, rfl⟩⟩; refine ⟨_, rfl, ?_⟩))
       go_ret2
       exact ⟨zF, zD⟩
     ·
      replace c13 := Bool.eq_false_iff.mpr c13; subst c13; have H1 : ((pledgeref1_signed.f ((decide (a0 < 0)) != (decide (a1 < 0))) t305).bind fun bt310 => (some (bt310.1, bt310.2))) = some (r1, r2) := by rw [if_neg (show ¬ (false = true) by decide)] at H; exact H
      clear H; have H := H1; clear H1; replace H := Option.bind_eq_some_iff.mp H; obtain ⟨⟨t310, t311⟩, A160, H⟩ := H; replace H : (some (t310, t311)) = some (r1, r2) := H; have A16 := Aside0.mk A160; clear A160; simp only [Option.some.injEq, Prod.mk.injEq] at H; obtain ⟨rfl, rfl⟩ := H
      go_wp2_with (first | ((with_reducible refine gate_callee (f := 45) rfl ?_); refine goesL_ (some 55) rfl rfl Tryd.func45 (by kernel_rfl) rfl #[.bool ((decide (a0 < 0)) != (decide (a1 < 0))), .int .u64 t305] rfl zM ?_; (with_reducible refine (pledgeref1_signed.calls ((decide (a0 < 0)) != (decide (a1 < 0))) t305 t310 t311 _ A16.out).mono ?_); rintro e w' ⟨rfl, ⟨nd, rfl⟩⟩; refine ⟨_, rfl, ?_⟩))
      go_ret2
      exact ⟨zF, zD⟩
  ·
   replace c10 := Bool.eq_false_iff.mpr c10; subst c10; have H1 : (some (0, false)) = some (r1, r2) := by rw [if_neg (show ¬ (false = true) by decide)] at H; exact H
   clear H; have H := H1; clear H1; simp only [Option.some.injEq, Prod.mk.injEq] at H; obtain ⟨rfl, rfl⟩ := H
   go_enter Tryd.func25, Tryd.ntmps25
   go_wp2_with (first | ((with_reducible refine gate_callee (f := 43) rfl ?_); refine goesL_ (some 20) rfl rfl Tryd.func43 (by kernel_rfl) rfl #[.int .i64 a0] rfl zM ?_; (with_reducible refine (pledgeref1_size.calls a0 t301 _ A6.out).mono ?_); rintro e w' ⟨rfl, ⟨nd, rfl⟩⟩; refine ⟨_, rfl, ?_⟩) | ((with_reducible refine gate_callee (f := 43) rfl ?_); refine goesL_ (some 22) rfl rfl Tryd.func43 (by kernel_rfl) rfl #[.int .i64 a1] rfl zM ?_; (with_reducible refine (pledgeref1_size.calls a1 t302 _ A7.out).mono ?_); rintro e w' ⟨rfl, ⟨nd, rfl⟩⟩; refine ⟨_, rfl, ?_⟩) | ((with_reducible refine gate_callee (f := 42) rfl ?_); refine goesL_ (some 23) rfl rfl Tryd.func42 (by kernel_rfl) rfl #[.int .u64 t301, .int .u64 t302] rfl zM ?_; (with_reducible refine (pledgeref1_Wide.calls t301 t302 t303 t304 _ A8.out).mono ?_); rintro e w' ⟨rfl, ⟨nd, rfl⟩⟩; refine ⟨_, rfl, ?_⟩) | ((with_reducible refine gate_callee (f := 44) rfl ?_); refine goesL_ (some 36) rfl rfl Tryd.func44 (by kernel_rfl) rfl #[.int .u64 t303, .int .u64 t304, .int .u64 (IntKind.u64.wrap (a2))] rfl zM ?_; (with_reducible refine (pledgeref1_over.calls k t303 t304 (IntKind.u64.wrap (a2)) t305 t306 false _ A9.out).mono ?_); rintro e w' ⟨rfl, ⟨nd, rfl⟩⟩; refine ⟨_, rfl, ?_⟩))
   go_ret2
   exact ⟨zF, zD⟩

/-! ### pledgeref18_Least: function 12 -/
def pledgeref18_Least.j0 : Nat → Int → Int → Bool → List (S47) → List Int → Int → Option (Int × Bool)
 | 0, _, _, _, _, _, _ => none
 | k + 1, x1, x2, x24, x313000, x313001, x313002 => if x24 = true then (some (0, false)) else (if x2 ≤ 0 then (some (0, true)) else ((pledgeref18_Rate.f k x313000 x313001 x313002 x1).bind fun bt314 => (if bt314.2.2 = true then ((pledgeref1_Div.f k x2 bt314.1 bt314.2.1 true).bind fun bt317 => (some (bt317.1, bt317.2))) else (some (0, false)))))
def pledgeref18_Least.f (k : Nat) (l0_0 : List (S47)) (l0_1 : List Int) (a0_2 : Int) (a1 : Int) (a2 : Int) : Option (Int × Bool) := (pledgeref18_Valid.f k l0_0 l0_1 a0_2).bind fun t313 => (if t313 = 0 then (if a1 < 0 then (pledgeref18_Least.j0 k a1 a2 true l0_0 l0_1 a0_2) else (pledgeref18_Least.j0 k a1 a2 (decide (a1 > (l0_0.length : Int))) l0_0 l0_1 a0_2)) else (pledgeref18_Least.j0 k a1 a2 true l0_0 l0_1 a0_2))
theorem pledgeref18_Least.mono_l : ∀ k, (∀ y0 y1 y2 y3 y4 y5, LeO (pledgeref18_Least.j0 k y0 y1 y2 y3 y4 y5) (pledgeref18_Least.j0 (k + 1) y0 y1 y2 y3 y4 y5))
 | 0 => fun _ _ _ _ _ _ r h => by simp [pledgeref18_Least.j0] at h
 | k + 1 => by
  have ih0 := pledgeref18_Least.mono_l k
  ·
   intro y0 y1 y2 y3 y4 y5; unfold pledgeref18_Least.j0
   repeat' first
   | (with_reducible exact ih0 _ _ _ _ _ _)
   | (with_reducible exact pledgeref18_Rate.mono _ _ _ _ _)
   | (with_reducible exact pledgeref18_Valid.mono _ _ _ _)
   | (with_reducible exact pledgeref1_Div.mono _ _ _ _ _)
   | (with_reducible exact LeO.refl _)
   | (with_reducible exact LeO.none _)
   | (with_reducible refine LeO.ite ?_ ?_)
   | (with_reducible refine LeO.bind ?_ (fun _ => ?_))
   | exact ih0 _ _ _ _ _ _
   | exact pledgeref18_Rate.mono _ _ _ _ _
   | exact pledgeref18_Valid.mono _ _ _ _
   | exact pledgeref1_Div.mono _ _ _ _ _
   | exact LeO.none _
   | refine LeO.ite ?_ ?_
   | refine LeO.bind ?_ (fun _ => ?_)
theorem pledgeref18_Least.mono : ∀ a0 a1 a2 a3 a4 k, LeO (pledgeref18_Least.f k a0 a1 a2 a3 a4) (pledgeref18_Least.f (k + 1) a0 a1 a2 a3 a4) := by
 intro a0 a1 a2 a3 a4 k; have ih0 := pledgeref18_Least.mono_l k; unfold pledgeref18_Least.f
 repeat' first
   | (with_reducible exact ih0 _ _ _ _ _ _)
   | (with_reducible exact pledgeref18_Rate.mono _ _ _ _ _)
   | (with_reducible exact pledgeref18_Valid.mono _ _ _ _)
   | (with_reducible exact pledgeref1_Div.mono _ _ _ _ _)
   | (with_reducible exact LeO.refl _)
   | (with_reducible exact LeO.none _)
   | (with_reducible refine LeO.ite ?_ ?_)
   | (with_reducible refine LeO.bind ?_ (fun _ => ?_))
   | exact ih0 _ _ _ _ _ _
   | exact pledgeref18_Rate.mono _ _ _ _ _
   | exact pledgeref18_Valid.mono _ _ _ _
   | exact pledgeref1_Div.mono _ _ _ _ _
   | exact LeO.none _
   | refine LeO.ite ?_ ?_
   | refine LeO.bind ?_ (fun _ => ?_)
set_option maxHeartbeats 8000000 in
set_option maxRecDepth 100000 in
theorem pledgeref18_Least.calls [Inhabited (Int → Addr)] (k : Nat) (A0_0 : Option Addr) (c0_0 : Nat) (l0_0 : List (S47)) (A0_1 : Option Addr) (c0_1 : Nat) (l0_1 : List Int) (a0_2 : Int) (a1 : Int) (a2 : Int) (r1 : Int) (r2 : Bool) (w : World) (hr0_0 : Kd.C k47 w A0_0 l0_0.length l0_0) (hc0_0 : l0_0.length ≤ c0_0) (hr0_1 : Kd.C (Kd.int .i64) w A0_1 l0_1.length l0_1) (hc0_1 : l0_1.length ≤ c0_1) (h : pledgeref18_Least.f k l0_0 l0_1 a0_2 a1 a2 = some (r1, r2)) :
  Calls Tryd.prog 12 #[.agg #[.slice A0_0 l0_0.length c0_0, .slice A0_1 l0_1.length c0_1, .int .i64 a0_2], .int .i64 a1, .int .i64 a2] w fun e w' => e = .returned (.tuple #[.int .i64 r1, .bool r2]) ∧ Below w.heap.size w w' := by
 have hu30 := Tryd.underlying30; have HR0_0 := Aside0.mk hr0_0; have HC0_0 := Aside0.mk hc0_0; clear hr0_0 hc0_0; have HR0_1 := Aside0.mk hr0_1; have HC0_1 := Aside0.mk hc0_1; clear hr0_1 hc0_1; have HB := Aside0.mk (Below.refl w.heap.size w); have H : ((pledgeref18_Valid.f k l0_0 l0_1 a0_2).bind fun t313 => (if t313 = 0 then (if a1 < 0 then (pledgeref18_Least.j0 k a1 a2 true l0_0 l0_1 a0_2) else (pledgeref18_Least.j0 k a1 a2 (decide (a1 > (l0_0.length : Int))) l0_0 l0_1 a0_2)) else (pledgeref18_Least.j0 k a1 a2 true l0_0 l0_1 a0_2))) = some (r1, r2) := h; clear h; have HC4 := Aside0.mk H; clear H
 go_enter Tryd.func12, Tryd.ntmps12
 go_upto_region 1 with (first | ((with_reducible refine gate_dst (N := 3) rfl ?_); (try (refine gate_guard (by rfl) ?_; dsimp only)); refine box_event ?hg (N := 3) ?hd (cs := #[.slice A0_0 l0_0.length c0_0, .slice A0_1 l0_1.length c0_1, .int .i64 a0_2]) (t := 30) ?hr ?_; (case hd => rfl); (case hg => rfl); (case hr => first | (go_simp; done) | (go_simp; rfl)); intro gb312 hg w5 hbox hb; have n0_ := Aside0.mk (below_step (zH HB.out) hb); have n1_ := Aside0.mk (hbox); have n2_ := Aside0.mk (zg hg (below_size (zH HB.out)) : w.heap.size ≤ gb312); have n3_ := Aside0.mk (zg hg (below_size (zH HB.out)) : w.heap.size ≤ gb312); clear HB; have HB := n0_; have BK312 := n1_; have GW312 := n2_; have GE312 := n3_; clear n0_ n1_ n2_ n3_; clear hb hbox hg))
 (try simp only [Act.put, zq1, zq2, zq3])
 go_cut [24] (fun v24 wc => ∃ (kq : Nat) (x24_3 : Bool), v24 = .bool x24_3 ∧ Aside0 (pledgeref18_Least.j0 kq a1 a2 x24_3 l0_0 l0_1 a0_2 = some (r1, r2)) ∧ Aside0 (kq ≤ k) ∧ Aside0 (wc.heap[gb312]? = some (.cells #[(.slice A0_0 l0_0.length c0_0), (.slice A0_1 l0_1.length c0_1), .int .i64 a0_2] 30 (0, 0))) ∧ Aside0 (Below w.heap.size w wc))
 case first =>
  have H := HC4.out; clear HC4; replace H := Option.bind_eq_some_iff.mp H; obtain ⟨t313, A60, H⟩ := H; replace H : (if t313 = 0 then (if a1 < 0 then (pledgeref18_Least.j0 k a1 a2 true l0_0 l0_1 a0_2) else (pledgeref18_Least.j0 k a1 a2 (decide (a1 > (l0_0.length : Int))) l0_0 l0_1 a0_2)) else (pledgeref18_Least.j0 k a1 a2 true l0_0 l0_1 a0_2)) = some (r1, r2) := H; have A6 := Aside0.mk A60; clear A60; by_cases c7 : t313 = 0
  ·
   rw [if_pos c7] at H; have c7b0 : (t313 == 0) = true := beq_iff_eq.mpr c7; have c7b1 : (t313 != 0) = false := bne_eq_false_iff_eq.mpr c7; clear c7
   (first | rw [c7b0] | (simp only [i64_w, i32_w]; rw [c7b0]) | skip)
   by_cases c8 : a1 < 0
   ·
    rw [if_pos c8] at H; have c8b0 : decide (a1 < 0) = true := decide_eq_true c8; clear c8; have H' := Aside0.mk H; clear H; have hcz9_0 : w5.cell? ⟨gb312, 0, none⟩ = some (.slice A0_0 l0_0.length c0_0) := (blk_cell BK312.out 0).trans rfl; have hcz9_1 : w5.cell? ⟨gb312, 1, none⟩ = some (.slice A0_1 l0_1.length c0_1) := (blk_cell BK312.out 1).trans rfl; have hcz9_2 : w5.cell? ⟨gb312, 2, none⟩ = some (.int .i64 a0_2) := (blk_cell BK312.out 2).trans rfl; have hfz9_0 := blk_frozen BK312.out 0; have hfz9_1 := blk_frozen BK312.out 1; have hfz9_2 := blk_frozen BK312.out 2
    go_wp2_with (first | ((with_reducible refine gate_callee (f := 6) rfl ?_); refine goesL_ (some 12) rfl rfl Tryd.func6 (by kernel_rfl) rfl #[.agg #[.slice A0_0 l0_0.length c0_0, .slice A0_1 l0_1.length c0_1, .int .i64 a0_2]] rfl zM ?_; (with_reducible refine (pledgeref18_Valid.calls k _ _ l0_0 _ _ l0_1 a0_2 t313 _ ?side1 ?side2 ?side3 ?side4 A6.out).mono ?_); (case side1 => exact zC HR0_0.out HB.out); (case side2 => exact HC0_0.out); (case side3 => exact zC HR0_1.out HB.out); (case side4 => exact HC0_1.out); rintro e w10 ⟨rfl, hb⟩; refine ⟨_, rfl, ?_⟩; have n0_ := zBB BK312 hb; have n1_ := Aside0.mk (below_step (zH1 HB.out GE312.out) hb); clear BK312; clear HB; have BK312 := n0_; have HB := n1_; clear n0_ n1_; (try clear hb); (try clear hb2); (try clear hk); (try clear hi)))
    go_meet
    case rel => exact ⟨_, (true), zS, H', ⟨by first | omega | exact Nat.le_refl _⟩, ⟨zB BK312.out⟩, ⟨zH1 HB.out GE312.out⟩⟩
   ·
    rw [if_neg c8] at H; have c8b0 : decide (a1 < 0) = false := decide_eq_false c8; clear c8; have H' := Aside0.mk H; clear H; have hcz11_0 : w5.cell? ⟨gb312, 0, none⟩ = some (.slice A0_0 l0_0.length c0_0) := (blk_cell BK312.out 0).trans rfl; have hcz11_1 : w5.cell? ⟨gb312, 1, none⟩ = some (.slice A0_1 l0_1.length c0_1) := (blk_cell BK312.out 1).trans rfl; have hcz11_2 : w5.cell? ⟨gb312, 2, none⟩ = some (.int .i64 a0_2) := (blk_cell BK312.out 2).trans rfl; have hfz11_0 := blk_frozen BK312.out 0; have hfz11_1 := blk_frozen BK312.out 1; have hfz11_2 := blk_frozen BK312.out 2
    go_wp2_with (first | ((with_reducible refine gate_callee (f := 6) rfl ?_); refine goesL_ (some 12) rfl rfl Tryd.func6 (by kernel_rfl) rfl #[.agg #[.slice A0_0 l0_0.length c0_0, .slice A0_1 l0_1.length c0_1, .int .i64 a0_2]] rfl zM ?_; (with_reducible refine (pledgeref18_Valid.calls k _ _ l0_0 _ _ l0_1 a0_2 t313 _ ?side1 ?side2 ?side3 ?side4 A6.out).mono ?_); (case side1 => exact zC HR0_0.out HB.out); (case side2 => exact HC0_0.out); (case side3 => exact zC HR0_1.out HB.out); (case side4 => exact HC0_1.out); rintro e w12 ⟨rfl, hb⟩; refine ⟨_, rfl, ?_⟩; have n0_ := zBB BK312 hb; have n1_ := Aside0.mk (below_step (zH1 HB.out GE312.out) hb); clear BK312; clear HB; have BK312 := n0_; have HB := n1_; clear n0_ n1_; (try clear hb); (try clear hb2); (try clear hk); (try clear hi); have hcz13_0 : w12.cell? ⟨gb312, 0, none⟩ = some (.slice A0_0 l0_0.length c0_0) := (blk_cell BK312.out 0).trans rfl; have hcz13_1 : w12.cell? ⟨gb312, 1, none⟩ = some (.slice A0_1 l0_1.length c0_1) := (blk_cell BK312.out 1).trans rfl; have hcz13_2 : w12.cell? ⟨gb312, 2, none⟩ = some (.int .i64 a0_2) := (blk_cell BK312.out 2).trans rfl; have hfz13_0 := blk_frozen BK312.out 0; have hfz13_1 := blk_frozen BK312.out 1; have hfz13_2 := blk_frozen BK312.out 2))
    go_meet
    case rel => exact ⟨_, (decide (a1 > (l0_0.length : Int))), zS, H', ⟨by first | omega | exact Nat.le_refl _⟩, ⟨zB BK312.out⟩, ⟨zH1 HB.out GE312.out⟩⟩
  ·
   rw [if_neg c7] at H; have c7b0 : (t313 == 0) = false := beq_eq_false_iff_ne.mpr c7; have c7b1 : (t313 != 0) = true := bne_iff_ne.mpr c7
   (first | rw [c7b0] | (simp only [i64_w, i32_w]; rw [c7b0]) | skip)
   have H' := Aside0.mk H; clear H; have hcz14_0 : w5.cell? ⟨gb312, 0, none⟩ = some (.slice A0_0 l0_0.length c0_0) := (blk_cell BK312.out 0).trans rfl; have hcz14_1 : w5.cell? ⟨gb312, 1, none⟩ = some (.slice A0_1 l0_1.length c0_1) := (blk_cell BK312.out 1).trans rfl; have hcz14_2 : w5.cell? ⟨gb312, 2, none⟩ = some (.int .i64 a0_2) := (blk_cell BK312.out 2).trans rfl; have hfz14_0 := blk_frozen BK312.out 0; have hfz14_1 := blk_frozen BK312.out 1; have hfz14_2 := blk_frozen BK312.out 2
   go_wp2_with (first | ((with_reducible refine gate_callee (f := 6) rfl ?_); refine goesL_ (some 12) rfl rfl Tryd.func6 (by kernel_rfl) rfl #[.agg #[.slice A0_0 l0_0.length c0_0, .slice A0_1 l0_1.length c0_1, .int .i64 a0_2]] rfl zM ?_; (with_reducible refine (pledgeref18_Valid.calls k _ _ l0_0 _ _ l0_1 a0_2 t313 _ ?side1 ?side2 ?side3 ?side4 A6.out).mono ?_); (case side1 => exact zC HR0_0.out HB.out); (case side2 => exact HC0_0.out); (case side3 => exact zC HR0_1.out HB.out); (case side4 => exact HC0_1.out); rintro e w15 ⟨rfl, hb⟩; refine ⟨_, rfl, ?_⟩; have n0_ := zBB BK312 hb; have n1_ := Aside0.mk (below_step (zH1 HB.out GE312.out) hb); clear BK312; clear HB; have BK312 := n0_; have HB := n1_; clear n0_ n1_; (try clear hb); (try clear hb2); (try clear hk); (try clear hi)))
   go_meet
   case rel => exact ⟨_, (true), zS, H', ⟨by first | omega | exact Nat.le_refl _⟩, ⟨zB BK312.out⟩, ⟨zH1 HB.out GE312.out⟩⟩
 case rest =>
  clear HC4
  try clear c1
  try clear p2
  try clear c6
  try clear c7
  try clear c7b0
  try clear c7b1
  try clear c8
  try clear c8b0
  try clear c12
  try clear hcz11_0
  try clear hcz11_1
  try clear hcz11_2
  try clear hcz13_0
  try clear hcz13_1
  try clear hcz13_2
  try clear hcz14_0
  try clear hcz14_1
  try clear hcz14_2
  try clear hcz9_0
  try clear hcz9_1
  try clear hcz9_2
  try clear hfz11_0
  try clear hfz11_1
  try clear hfz11_2
  try clear hfz13_0
  try clear hfz13_1
  try clear hfz13_2
  try clear hfz14_0
  try clear hfz14_1
  try clear hfz14_2
  try clear hfz9_0
  try clear hfz9_1
  try clear hfz9_2
  obtain ⟨kq, x24_3, rfl, HA, HJ3, BK312, HB⟩ := hcut
  cases kq with
  | zero => exact absurd HA.out (by simp [pledgeref18_Least.j0])
  | succ kj3 =>
   have H := HA.out; clear HA; simp only [pledgeref18_Least.j0] at H; by_cases c16 : x24_3 = true
   ·
    subst c16; have H1 : (some (0, false)) = some (r1, r2) := by rw [if_pos rfl] at H; exact H
    clear H; have H := H1; clear H1; simp only [Option.some.injEq, Prod.mk.injEq] at H; obtain ⟨rfl, rfl⟩ := H
    go_wp2
    go_ret2
    exact ⟨zE, zH1 HB.out GE312.out⟩
   ·
    replace c16 := Bool.eq_false_iff.mpr c16; subst c16; have H1 : (if a2 ≤ 0 then (some (0, true)) else ((pledgeref18_Rate.f kj3 l0_0 l0_1 a0_2 a1).bind fun bt314 => (if bt314.2.2 = true then ((pledgeref1_Div.f kj3 a2 bt314.1 bt314.2.1 true).bind fun bt317 => (some (bt317.1, bt317.2))) else (some (0, false))))) = some (r1, r2) := by rw [if_neg (show ¬ (false = true) by decide)] at H; exact H
    clear H; have H := H1; clear H1; by_cases c17 : a2 ≤ 0
    ·
     rw [if_pos c17] at H; have c17b0 : decide (a2 ≤ 0) = true := decide_eq_true c17; clear c17; simp only [Option.some.injEq, Prod.mk.injEq] at H; obtain ⟨rfl, rfl⟩ := H
     go_wp2
     go_ret2
     exact ⟨zE, zH1 HB.out GE312.out⟩
    ·
     rw [if_neg c17] at H; have c17b0 : decide (a2 ≤ 0) = false := decide_eq_false c17; clear c17; replace H := Option.bind_eq_some_iff.mp H; obtain ⟨⟨t314, t315, t316⟩, A180, H⟩ := H; replace H : (if t316 = true then ((pledgeref1_Div.f kj3 a2 t314 t315 true).bind fun bt317 => (some (bt317.1, bt317.2))) else (some (0, false))) = some (r1, r2) := H; have A18 := Aside0.mk A180; clear A180; by_cases c19 : t316 = true
     ·
      subst c19; have H1 : ((pledgeref1_Div.f kj3 a2 t314 t315 true).bind fun bt317 => (some (bt317.1, bt317.2))) = some (r1, r2) := by rw [if_pos rfl] at H; exact H
      clear H; have H := H1; clear H1; replace H := Option.bind_eq_some_iff.mp H; obtain ⟨⟨t317, t318⟩, A200, H⟩ := H; replace H : (some (t317, t318)) = some (r1, r2) := H; have A20 := Aside0.mk A200; clear A200; simp only [Option.some.injEq, Prod.mk.injEq] at H; obtain ⟨rfl, rfl⟩ := H; have hcz21_0 : wc.cell? ⟨gb312, 0, none⟩ = some (.slice A0_0 l0_0.length c0_0) := (blk_cell BK312.out 0).trans rfl; have hcz21_1 : wc.cell? ⟨gb312, 1, none⟩ = some (.slice A0_1 l0_1.length c0_1) := (blk_cell BK312.out 1).trans rfl; have hcz21_2 : wc.cell? ⟨gb312, 2, none⟩ = some (.int .i64 a0_2) := (blk_cell BK312.out 2).trans rfl; have hfz21_0 := blk_frozen BK312.out 0; have hfz21_1 := blk_frozen BK312.out 1; have hfz21_2 := blk_frozen BK312.out 2
      go_wp2_with (first | ((with_reducible refine gate_callee (f := 24) rfl ?_); refine goesL_ (some 30) rfl rfl Tryd.func24 (by kernel_rfl) rfl #[.agg #[.slice A0_0 l0_0.length c0_0, .slice A0_1 l0_1.length c0_1, .int .i64 a0_2], .int .i64 a1] rfl zM ?_; (with_reducible refine (pledgeref18_Rate.calls kj3 _ _ l0_0 _ _ l0_1 a0_2 a1 t314 t315 true _ ?side1 ?side2 ?side3 ?side4 A18.out).mono ?_); (case side1 => exact zC HR0_0.out HB.out); (case side2 => exact HC0_0.out); (case side3 => exact zC HR0_1.out HB.out); (case side4 => exact HC0_1.out); rintro e w22 ⟨rfl, hb⟩; refine ⟨_, rfl, ?_⟩; have n0_ := zBB BK312 hb; have n1_ := Aside0.mk (below_step (zH1 HB.out GE312.out) hb); clear BK312; clear HB; have BK312 := n0_; have HB := n1_; clear n0_ n1_; (try clear hb); (try clear hb2); (try clear hk); (try clear hi)) | ((with_reducible refine gate_callee (f := 25) rfl ?_); refine goesL_ (some 39) rfl rfl Tryd.func25 (by kernel_rfl) rfl #[.int .i64 a2, .int .i64 t314, .int .i64 t315, .bool true] rfl zM ?_; (with_reducible refine (pledgeref1_Div.calls kj3 a2 t314 t315 true t317 t318 _ A20.out).mono ?_); rintro e w' ⟨rfl, ⟨nd, rfl⟩⟩; refine ⟨_, rfl, ?_⟩))
      go_ret2
      exact ⟨zE, zH1 HB.out GE312.out⟩
     ·
      replace c19 := Bool.eq_false_iff.mpr c19; subst c19; have H1 : (some (0, false)) = some (r1, r2) := by rw [if_neg (show ¬ (false = true) by decide)] at H; exact H
      clear H; have H := H1; clear H1; simp only [Option.some.injEq, Prod.mk.injEq] at H; obtain ⟨rfl, rfl⟩ := H; have hcz23_0 : wc.cell? ⟨gb312, 0, none⟩ = some (.slice A0_0 l0_0.length c0_0) := (blk_cell BK312.out 0).trans rfl; have hcz23_1 : wc.cell? ⟨gb312, 1, none⟩ = some (.slice A0_1 l0_1.length c0_1) := (blk_cell BK312.out 1).trans rfl; have hcz23_2 : wc.cell? ⟨gb312, 2, none⟩ = some (.int .i64 a0_2) := (blk_cell BK312.out 2).trans rfl; have hfz23_0 := blk_frozen BK312.out 0; have hfz23_1 := blk_frozen BK312.out 1; have hfz23_2 := blk_frozen BK312.out 2
      go_wp2_with (first | ((with_reducible refine gate_callee (f := 24) rfl ?_); refine goesL_ (some 30) rfl rfl Tryd.func24 (by kernel_rfl) rfl #[.agg #[.slice A0_0 l0_0.length c0_0, .slice A0_1 l0_1.length c0_1, .int .i64 a0_2], .int .i64 a1] rfl zM ?_; (with_reducible refine (pledgeref18_Rate.calls kj3 _ _ l0_0 _ _ l0_1 a0_2 a1 t314 t315 false _ ?side1 ?side2 ?side3 ?side4 A18.out).mono ?_); (case side1 => exact zC HR0_0.out HB.out); (case side2 => exact HC0_0.out); (case side3 => exact zC HR0_1.out HB.out); (case side4 => exact HC0_1.out); rintro e w24 ⟨rfl, hb⟩; refine ⟨_, rfl, ?_⟩; have n0_ := zBB BK312 hb; have n1_ := Aside0.mk (below_step (zH1 HB.out GE312.out) hb); clear BK312; clear HB; have BK312 := n0_; have HB := n1_; clear n0_ n1_; (try clear hb); (try clear hb2); (try clear hk); (try clear hi)))
      go_ret2
      exact ⟨zE, zH1 HB.out GE312.out⟩

/-! ### pledgeref18_Fits: function 14 -/
def pledgeref18_Fits.f (k : Nat) (l0_0 : List (S47)) (l0_1 : List Int) (a0_2 : Int) (l1 : List Int) : Option (Bool) := (pledgeref18_Worth.f k l0_0 l0_1 a0_2 l1).bind fun bt320 => (if bt320.2 = true then (some (decide (bt320.1 ≥ a0_2))) else (some false))
theorem pledgeref18_Fits.mono : ∀ a0 a1 a2 a3 k, LeO (pledgeref18_Fits.f k a0 a1 a2 a3) (pledgeref18_Fits.f (k + 1) a0 a1 a2 a3) := by
  intro a0 a1 a2 a3 k; unfold pledgeref18_Fits.f
  repeat' first
      | (with_reducible exact pledgeref18_Worth.mono _ _ _ _ _)
      | (with_reducible exact LeO.refl _)
      | (with_reducible exact LeO.none _)
      | (with_reducible refine LeO.ite ?_ ?_)
      | (with_reducible refine LeO.bind ?_ (fun _ => ?_))
      | exact pledgeref18_Worth.mono _ _ _ _ _
      | exact LeO.none _
      | refine LeO.ite ?_ ?_
      | refine LeO.bind ?_ (fun _ => ?_)
set_option maxHeartbeats 8000000 in
set_option maxRecDepth 100000 in
theorem pledgeref18_Fits.calls [Inhabited (Int → Addr)] (k : Nat) (A0_0 : Option Addr) (c0_0 : Nat) (l0_0 : List (S47)) (A0_1 : Option Addr) (c0_1 : Nat) (l0_1 : List Int) (a0_2 : Int) (A1 : Option Addr) (c1 : Nat) (l1 : List Int) (r : Bool) (w : World) (hr0_0 : Kd.C k47 w A0_0 l0_0.length l0_0) (hc0_0 : l0_0.length ≤ c0_0) (hr0_1 : Kd.C (Kd.int .i64) w A0_1 l0_1.length l0_1) (hc0_1 : l0_1.length ≤ c0_1) (hr1 : Kd.C (Kd.int .i64) w A1 l1.length l1) (hc1 : l1.length ≤ c1) (h : pledgeref18_Fits.f k l0_0 l0_1 a0_2 l1 = some r) :
    Calls Tryd.prog 14 #[.agg #[.slice A0_0 l0_0.length c0_0, .slice A0_1 l0_1.length c0_1, .int .i64 a0_2], .slice A1 l1.length c1] w fun e w' => e = .returned (.bool r) ∧ Below w.heap.size w w' := by
  have hu30 := Tryd.underlying30; have HR0_0 := Aside0.mk hr0_0; have HC0_0 := Aside0.mk hc0_0; clear hr0_0 hc0_0; have HR0_1 := Aside0.mk hr0_1; have HC0_1 := Aside0.mk hc0_1; clear hr0_1 hc0_1; have HR1 := Aside0.mk hr1; have HC1 := Aside0.mk hc1; clear hr1 hc1; have HB := Aside0.mk (Below.refl w.heap.size w); have H : ((pledgeref18_Worth.f k l0_0 l0_1 a0_2 l1).bind fun bt320 => (if bt320.2 = true then (some (decide (bt320.1 ≥ a0_2))) else (some false))) = some r := h; clear h; replace H := Option.bind_eq_some_iff.mp H; obtain ⟨⟨t320, t321⟩, A30, H⟩ := H; replace H : (if t321 = true then (some (decide (t320 ≥ a0_2))) else (some false)) = some r := H; have A3 := Aside0.mk A30; clear A30; by_cases c4 : t321 = true
  · subst c4
    have H1 : (some (decide (t320 ≥ a0_2))) = some r := by rw [if_pos rfl] at H; exact H
    clear H; have H := H1; clear H1; obtain rfl := Option.some.inj H
    go_enter Tryd.func14, Tryd.ntmps14
    go_wp2_with (first | ((with_reducible refine gate_dst (N := 2) rfl ?_); refine box_event ?hg (N := 2) ?hd (cs := #[.slice A0_0 l0_0.length c0_0, .slice A0_1 l0_1.length c0_1, .int .i64 a0_2]) (t := 30) ?hr ?_; (case hd => rfl); (case hg => rfl); (case hr => first | (go_simp; done) | (go_simp; rfl)); intro gb319 hg w5 hbox hb; have n0_ := Aside0.mk (below_step (zH HB.out) hb); have n1_ := Aside0.mk (hbox); have n2_ := Aside0.mk (zg hg (below_size (zH HB.out)) : w.heap.size ≤ gb319); have n3_ := Aside0.mk (zg hg (below_size (zH HB.out)) : w.heap.size ≤ gb319); clear HB; have HB := n0_; have BK319 := n1_; have GW319 := n2_; have GE319 := n3_; clear n0_ n1_ n2_ n3_; clear hb hbox hg; have hcz6_0 : w5.cell? ⟨gb319, 0, none⟩ = some (.slice A0_0 l0_0.length c0_0) := (blk_cell BK319.out 0).trans rfl; have hcz6_1 : w5.cell? ⟨gb319, 1, none⟩ = some (.slice A0_1 l0_1.length c0_1) := (blk_cell BK319.out 1).trans rfl; have hcz6_2 : w5.cell? ⟨gb319, 2, none⟩ = some (.int .i64 a0_2) := (blk_cell BK319.out 2).trans rfl; have hfz6_0 := blk_frozen BK319.out 0; have hfz6_1 := blk_frozen BK319.out 1; have hfz6_2 := blk_frozen BK319.out 2) | ((with_reducible refine gate_callee (f := 7) rfl ?_); refine goesL_ (some 10) rfl rfl Tryd.func7 (by kernel_rfl) rfl #[.agg #[.slice A0_0 l0_0.length c0_0, .slice A0_1 l0_1.length c0_1, .int .i64 a0_2], .slice A1 l1.length c1] rfl zM ?_; (with_reducible refine (pledgeref18_Worth.calls k _ _ l0_0 _ _ l0_1 a0_2 _ _ l1 t320 true _ ?side1 ?side2 ?side3 ?side4 ?side5 ?side6 A3.out).mono ?_); (case side1 => exact zC HR0_0.out HB.out); (case side2 => exact HC0_0.out); (case side3 => exact zC HR0_1.out HB.out); (case side4 => exact HC0_1.out); (case side5 => exact zC HR1.out HB.out); (case side6 => exact HC1.out); rintro e w7 ⟨rfl, hb⟩; refine ⟨_, rfl, ?_⟩; have n0_ := zBB BK319 hb; have n1_ := Aside0.mk (below_step (zH1 HB.out GE319.out) hb); clear BK319; clear HB; have BK319 := n0_; have HB := n1_; clear n0_ n1_; (try clear hb); (try clear hb2); (try clear hk); (try clear hi); have hcz8_0 : w7.cell? ⟨gb319, 0, none⟩ = some (.slice A0_0 l0_0.length c0_0) := (blk_cell BK319.out 0).trans rfl; have hcz8_1 : w7.cell? ⟨gb319, 1, none⟩ = some (.slice A0_1 l0_1.length c0_1) := (blk_cell BK319.out 1).trans rfl; have hcz8_2 : w7.cell? ⟨gb319, 2, none⟩ = some (.int .i64 a0_2) := (blk_cell BK319.out 2).trans rfl; have hfz8_0 := blk_frozen BK319.out 0; have hfz8_1 := blk_frozen BK319.out 1; have hfz8_2 := blk_frozen BK319.out 2))
    go_ret
    exact ⟨zE, zH1 HB.out GE319.out⟩
  · replace c4 := Bool.eq_false_iff.mpr c4
    subst c4; have H1 : (some false) = some r := by rw [if_neg (show ¬ (false = true) by decide)] at H; exact H
    clear H; have H := H1; clear H1; obtain rfl := Option.some.inj H
    go_enter Tryd.func14, Tryd.ntmps14
    go_wp2_with (first | ((with_reducible refine gate_dst (N := 2) rfl ?_); refine box_event ?hg (N := 2) ?hd (cs := #[.slice A0_0 l0_0.length c0_0, .slice A0_1 l0_1.length c0_1, .int .i64 a0_2]) (t := 30) ?hr ?_; (case hd => rfl); (case hg => rfl); (case hr => first | (go_simp; done) | (go_simp; rfl)); intro gb319 hg w9 hbox hb; have n0_ := Aside0.mk (below_step (zH HB.out) hb); have n1_ := Aside0.mk (hbox); have n2_ := Aside0.mk (zg hg (below_size (zH HB.out)) : w.heap.size ≤ gb319); have n3_ := Aside0.mk (zg hg (below_size (zH HB.out)) : w.heap.size ≤ gb319); clear HB; have HB := n0_; have BK319 := n1_; have GW319 := n2_; have GE319 := n3_; clear n0_ n1_ n2_ n3_; clear hb hbox hg; have hcz10_0 : w9.cell? ⟨gb319, 0, none⟩ = some (.slice A0_0 l0_0.length c0_0) := (blk_cell BK319.out 0).trans rfl; have hcz10_1 : w9.cell? ⟨gb319, 1, none⟩ = some (.slice A0_1 l0_1.length c0_1) := (blk_cell BK319.out 1).trans rfl; have hcz10_2 : w9.cell? ⟨gb319, 2, none⟩ = some (.int .i64 a0_2) := (blk_cell BK319.out 2).trans rfl; have hfz10_0 := blk_frozen BK319.out 0; have hfz10_1 := blk_frozen BK319.out 1; have hfz10_2 := blk_frozen BK319.out 2) | ((with_reducible refine gate_callee (f := 7) rfl ?_); refine goesL_ (some 10) rfl rfl Tryd.func7 (by kernel_rfl) rfl #[.agg #[.slice A0_0 l0_0.length c0_0, .slice A0_1 l0_1.length c0_1, .int .i64 a0_2], .slice A1 l1.length c1] rfl zM ?_; (with_reducible refine (pledgeref18_Worth.calls k _ _ l0_0 _ _ l0_1 a0_2 _ _ l1 t320 false _ ?side1 ?side2 ?side3 ?side4 ?side5 ?side6 A3.out).mono ?_); (case side1 => exact zC HR0_0.out HB.out); (case side2 => exact HC0_0.out); (case side3 => exact zC HR0_1.out HB.out); (case side4 => exact HC0_1.out); (case side5 => exact zC HR1.out HB.out); (case side6 => exact HC1.out); rintro e w11 ⟨rfl, hb⟩; refine ⟨_, rfl, ?_⟩; have n0_ := zBB BK319 hb; have n1_ := Aside0.mk (below_step (zH1 HB.out GE319.out) hb); clear BK319; clear HB; have BK319 := n0_; have HB := n1_; clear n0_ n1_; (try clear hb); (try clear hb2); (try clear hk); (try clear hi)))
    go_ret
    exact ⟨zE, zH1 HB.out GE319.out⟩

end Go.Proofs.YteooecifecaikaaDoor.ECertSays
