/- The functions that the law comes to, as plain functions, and for each a proof that the Go code comes to just these answers. Written by a program of this claim. Conditions: each theorem bears its own. -/
import Derived.Test.YteooecifecaikaaDoorECertSaysx0
import Derived.Test.YteooecifecaikaaDoorECertSaysx6
import Derived.Test.YteooecifecaikaaDoorECertSaysx7
import Derived.Test.YteooecifecaikaaDoorECertSaysx8
import Derived.Test.YteooecifecaikaaDoorECertSaysx9
namespace Go.Proofs.YteooecifecaikaaDoor.ECertSays
open Go.RowKit Go.Proofs.YteooecifecaikaaDoorW.PrintWords Go.Proofs.YteooecifecaikaaDoorW.PrintLast Go.Proofs.YteooecifecaikaaDoorW.PrintMore Go.Proofs.YteooecifecaikaaDoorW.PrintOpen
attribute [local go_sem] max2_int min2_int max_two min_two max_three min_three max_four min_four   -- for this text's walks alone
set_option linter.unusedVariables false
set_option linter.unusedSimpArgs false

/-! ### fix_signed: function 55 -/
def fix_signed.j0 : Nat → Int → Bool → Bool → Option (Int × Bool)
  | 0, _, _, _ => none
  | k + 1, x0, x1, x6 => if x6 = true then (some (wrap64 (-(wrap64 (x0))), true)) else (if x1 = true then (some (0, false)) else (if x0 < 9223372036854775808 then (some (wrap64 (x0), true)) else (some (0, false))))
def fix_signed.f (k : Nat) (a0 : Int) (a1 : Bool) : Option (Int × Bool) := if a1 = true then (fix_signed.j0 k a0 a1 (decide (a0 ≤ 9223372036854775808))) else (fix_signed.j0 k a0 a1 false)
theorem fix_signed.mono_l : ∀ k, (∀ y0 y1 y2, LeO (fix_signed.j0 k y0 y1 y2) (fix_signed.j0 (k + 1) y0 y1 y2))
  | 0 => fun _ _ _ r h => by simp [fix_signed.j0] at h
  | k + 1 => by
    have ih0 := fix_signed.mono_l k
    · intro y0 y1 y2
      unfold fix_signed.j0
      repeat' first
      | (with_reducible exact ih0 _ _ _)
      | (with_reducible exact LeO.refl _)
      | (with_reducible exact LeO.none _)
      | (with_reducible refine LeO.ite ?_ ?_)
      | (with_reducible refine LeO.bind ?_ (fun _ => ?_))
      | exact ih0 _ _ _
      | exact LeO.none _
      | refine LeO.ite ?_ ?_
      | refine LeO.bind ?_ (fun _ => ?_)
theorem fix_signed.mono : ∀ a0 a1 k, LeO (fix_signed.f k a0 a1) (fix_signed.f (k + 1) a0 a1) := by
  intro a0 a1 k; have ih0 := fix_signed.mono_l k; unfold fix_signed.f
  repeat' first
      | (with_reducible exact ih0 _ _ _)
      | (with_reducible exact LeO.refl _)
      | (with_reducible exact LeO.none _)
      | (with_reducible refine LeO.ite ?_ ?_)
      | (with_reducible refine LeO.bind ?_ (fun _ => ?_))
      | exact ih0 _ _ _
      | exact LeO.none _
      | refine LeO.ite ?_ ?_
      | refine LeO.bind ?_ (fun _ => ?_)
set_option maxHeartbeats 8000000 in
set_option maxRecDepth 100000 in
theorem fix_signed.calls [Inhabited (Int → Addr)] (k : Nat) (a0 : Int) (a1 : Bool) (r1 : Int) (r2 : Bool) (w : World) (h : fix_signed.f k a0 a1 = some (r1, r2)) :
    Calls Tryd.prog 55 #[.int .u64 a0, .bool a1] w fun e w' => e = .returned (.tuple #[.int .i64 r1, .bool r2]) ∧ Drawn0 w w' := by
  have H : (if a1 = true then (fix_signed.j0 k a0 a1 (decide (a0 ≤ 9223372036854775808))) else (fix_signed.j0 k a0 a1 false)) = some (r1, r2) := h; clear h; have HC3 := Aside0.mk H; clear H
  go_enter Tryd.func55, Tryd.ntmps55
  go_upto_region 1 with (fail)
  go_cut [6] (fun v6 wc => ∃ (kq : Nat) (x6_2 : Bool), v6 = .bool x6_2 ∧ Aside0 (fix_signed.j0 kq a0 a1 x6_2 = some (r1, r2)) ∧ Aside0 (kq ≤ k) ∧ Drawn0 w wc)
  case first =>
    have H := HC3.out; clear HC3; by_cases c4 : a1 = true
    · subst c4
      have H1 : (fix_signed.j0 k a0 true (decide (a0 ≤ 9223372036854775808))) = some (r1, r2) := by rw [if_pos rfl] at H; exact H
      clear H; have H := H1; clear H1; have H' := Aside0.mk H; clear H
      go_wp2
      go_meet
      case rel => exact ⟨_, (decide (a0 ≤ 9223372036854775808)), zS, H', ⟨by first | omega | exact Nat.le_refl _⟩, zD⟩
    · replace c4 := Bool.eq_false_iff.mpr c4
      subst c4; have H1 : (fix_signed.j0 k a0 false false) = some (r1, r2) := by rw [if_neg (show ¬ (false = true) by decide)] at H; exact H
      clear H; have H := H1; clear H1; have H' := Aside0.mk H; clear H
      go_wp2
      go_meet
      case rel => exact ⟨_, (false), zS, H', ⟨by first | omega | exact Nat.le_refl _⟩, zD⟩
  case rest =>
    clear HC3
    try clear p2
    try clear c4
    obtain ⟨kq, x6_2, rfl, HA, HJ2, ⟨mc2, rfl⟩⟩ := hcut
    cases kq with
    | zero => exact absurd HA.out (by simp [fix_signed.j0])
    | succ kj2 =>
      have H := HA.out; clear HA; simp only [fix_signed.j0] at H; by_cases c5 : x6_2 = true
      · subst c5
        have H1 : (some (wrap64 (-(wrap64 (a0))), true)) = some (r1, r2) := by rw [if_pos rfl] at H; exact H
        clear H; have H := H1; clear H1; simp only [Option.some.injEq, Prod.mk.injEq] at H; obtain ⟨rfl, rfl⟩ := H
        go_wp2
        go_ret2
        exact ⟨zF, zD⟩
      · replace c5 := Bool.eq_false_iff.mpr c5
        subst c5; have H1 : (if a1 = true then (some (0, false)) else (if a0 < 9223372036854775808 then (some (wrap64 (a0), true)) else (some (0, false)))) = some (r1, r2) := by rw [if_neg (show ¬ (false = true) by decide)] at H; exact H
        clear H; have H := H1; clear H1; by_cases c6 : a1 = true
        · subst c6
          have H1 : (some (0, false)) = some (r1, r2) := by rw [if_pos rfl] at H; exact H
          clear H; have H := H1; clear H1; simp only [Option.some.injEq, Prod.mk.injEq] at H; obtain ⟨rfl, rfl⟩ := H
          go_wp2
          go_ret2
          exact ⟨zF, zD⟩
        · replace c6 := Bool.eq_false_iff.mpr c6
          subst c6; have H1 : (if a0 < 9223372036854775808 then (some (wrap64 (a0), true)) else (some (0, false))) = some (r1, r2) := by rw [if_neg (show ¬ (false = true) by decide)] at H; exact H
          clear H; have H := H1; clear H1; by_cases c7 : a0 < 9223372036854775808
          · rw [if_pos c7] at H
            have c7b0 : decide (a0 < 9223372036854775808) = true := decide_eq_true c7; clear c7; simp only [Option.some.injEq, Prod.mk.injEq] at H; obtain ⟨rfl, rfl⟩ := H
            go_wp2
            go_ret2
            exact ⟨zF, zD⟩
          · rw [if_neg c7] at H
            have c7b0 : decide (a0 < 9223372036854775808) = false := decide_eq_false c7; clear c7; simp only [Option.some.injEq, Prod.mk.injEq] at H; obtain ⟨rfl, rfl⟩ := H
            go_wp2
            go_ret2
            exact ⟨zF, zD⟩

/-! ### fix_Div: function 40 -/
mutual
def fix_Div.j0 : Nat → Bool → Int → Int → Bool → Option (Int × Bool)
 | 0, _, _, _, _ => none
 | k + 1, x3, x17, x18, x19 => if x18 > 0 then (fix_Div.j1 k x17 x19 (x3 != x19)) else (fix_Div.j1 k x17 x19 false)
def fix_Div.j1 : Nat → Int → Bool → Bool → Option (Int × Bool)
 | 0, _, _, _ => none
 | k + 1, x17, x19, x65 => if x65 = true then (if (IntKind.u64.wrap (x17 + 1)) = 0 then (some (0, false)) else ((fix_signed.f k (IntKind.u64.wrap (x17 + 1)) x19).bind fun bt265 => (some (bt265.1, bt265.2)))) else ((fix_signed.f k x17 x19).bind fun bt267 => (some (bt267.1, bt267.2)))
end
def fix_Div.f (k : Nat) (a0 : Int) (a1 : Int) (a2 : Int) (a3 : Bool) : Option (Int × Bool) := if a2 ≤ 0 then (some (0, false)) else ((fix_size.f a0).bind fun bt257 => ((fix_size.f a1).bind fun bt259 => ((fix_Wide.f bt257.1 bt259.1).bind fun bt261 => (if bt261.1 ≥ (IntKind.u64.wrap (a2)) then (some (0, false)) else ((bits_Div64.f k bt261.1 bt261.2 (IntKind.u64.wrap (a2))).bind fun bt263 => (if (bt257.2 != bt259.2) = true then (fix_Div.j0 k a3 bt263.1 bt263.2 ((Go.bits .or .u64 bt261.1 bt261.2) != 0)) else (fix_Div.j0 k a3 bt263.1 bt263.2 false)))))))
theorem fix_Div.mono_l : ∀ k, (∀ y0 y1 y2 y3, LeO (fix_Div.j0 k y0 y1 y2 y3) (fix_Div.j0 (k + 1) y0 y1 y2 y3)) ∧ (∀ y0 y1 y2, LeO (fix_Div.j1 k y0 y1 y2) (fix_Div.j1 (k + 1) y0 y1 y2))
 | 0 => ⟨fun _ _ _ _ r h => by simp [fix_Div.j0] at h, fun _ _ _ r h => by simp [fix_Div.j1] at h⟩
 | k + 1 => by
  obtain ⟨ih0, ih1⟩ := fix_Div.mono_l k; refine ⟨?_, ?_⟩
  ·
   intro y0 y1 y2 y3; unfold fix_Div.j0
   repeat' first
   | (with_reducible exact ih0 _ _ _ _)
   | (with_reducible exact ih1 _ _ _)
   | (with_reducible exact bits_Div64.mono _ _ _ _)
   | (with_reducible exact fix_signed.mono _ _ _)
   | (with_reducible exact LeO.refl _)
   | (with_reducible exact LeO.none _)
   | (with_reducible refine LeO.ite ?_ ?_)
   | (with_reducible refine LeO.bind ?_ (fun _ => ?_))
   | exact ih0 _ _ _ _
   | exact ih1 _ _ _
   | exact bits_Div64.mono _ _ _ _
   | exact fix_signed.mono _ _ _
   | exact LeO.none _
   | refine LeO.ite ?_ ?_
   | refine LeO.bind ?_ (fun _ => ?_)
  ·
   intro y0 y1 y2; unfold fix_Div.j1
   repeat' first
   | (with_reducible exact ih0 _ _ _ _)
   | (with_reducible exact ih1 _ _ _)
   | (with_reducible exact bits_Div64.mono _ _ _ _)
   | (with_reducible exact fix_signed.mono _ _ _)
   | (with_reducible exact LeO.refl _)
   | (with_reducible exact LeO.none _)
   | (with_reducible refine LeO.ite ?_ ?_)
   | (with_reducible refine LeO.bind ?_ (fun _ => ?_))
   | exact ih0 _ _ _ _
   | exact ih1 _ _ _
   | exact bits_Div64.mono _ _ _ _
   | exact fix_signed.mono _ _ _
   | exact LeO.none _
   | refine LeO.ite ?_ ?_
   | refine LeO.bind ?_ (fun _ => ?_)
theorem fix_Div.mono : ∀ a0 a1 a2 a3 k, LeO (fix_Div.f k a0 a1 a2 a3) (fix_Div.f (k + 1) a0 a1 a2 a3) := by
 intro a0 a1 a2 a3 k; obtain ⟨ih0, ih1⟩ := fix_Div.mono_l k; unfold fix_Div.f
 repeat' first
   | (with_reducible exact ih0 _ _ _ _)
   | (with_reducible exact ih1 _ _ _)
   | (with_reducible exact bits_Div64.mono _ _ _ _)
   | (with_reducible exact fix_signed.mono _ _ _)
   | (with_reducible exact LeO.refl _)
   | (with_reducible exact LeO.none _)
   | (with_reducible refine LeO.ite ?_ ?_)
   | (with_reducible refine LeO.bind ?_ (fun _ => ?_))
   | exact ih0 _ _ _ _
   | exact ih1 _ _ _
   | exact bits_Div64.mono _ _ _ _
   | exact fix_signed.mono _ _ _
   | exact LeO.none _
   | refine LeO.ite ?_ ?_
   | refine LeO.bind ?_ (fun _ => ?_)
set_option maxHeartbeats 8000000 in
set_option maxRecDepth 100000 in
theorem fix_Div.calls [Inhabited (Int → Addr)] (k : Nat) (a0 : Int) (a1 : Int) (a2 : Int) (a3 : Bool) (r1 : Int) (r2 : Bool) (w : World) (hG : GlobOK w) (h : fix_Div.f k a0 a1 a2 a3 = some (r1, r2)) :
  Calls Tryd.prog 40 #[.int .i64 a0, .int .i64 a1, .int .i64 a2, .bool a3] w fun e w' => e = .returned (.tuple #[.int .i64 r1, .bool r2]) ∧ Below w.heap.size w w' := by
 have HG := Aside0.mk hG; clear hG; have HB := Aside0.mk (Below.refl w.heap.size w); have H : (if a2 ≤ 0 then (some (0, false)) else ((fix_size.f a0).bind fun bt257 => ((fix_size.f a1).bind fun bt259 => ((fix_Wide.f bt257.1 bt259.1).bind fun bt261 => (if bt261.1 ≥ (IntKind.u64.wrap (a2)) then (some (0, false)) else ((bits_Div64.f k bt261.1 bt261.2 (IntKind.u64.wrap (a2))).bind fun bt263 => (if (bt257.2 != bt259.2) = true then (fix_Div.j0 k a3 bt263.1 bt263.2 ((Go.bits .or .u64 bt261.1 bt261.2) != 0)) else (fix_Div.j0 k a3 bt263.1 bt263.2 false)))))))) = some (r1, r2) := h; clear h; by_cases c5 : a2 ≤ 0
 ·
  rw [if_pos c5] at H; have c5b0 : decide (a2 ≤ 0) = true := decide_eq_true c5; clear c5; simp only [Option.some.injEq, Prod.mk.injEq] at H; obtain ⟨rfl, rfl⟩ := H
  go_enter Tryd.func40, Tryd.ntmps40
  go_wp2
  go_ret2
  exact ⟨zE, zH HB.out⟩
 ·
  rw [if_neg c5] at H; have c5b0 : decide (a2 ≤ 0) = false := decide_eq_false c5; clear c5; replace H := Option.bind_eq_some_iff.mp H; obtain ⟨⟨t257, t258⟩, A60, H⟩ := H; replace H : ((fix_size.f a1).bind fun bt259 => ((fix_Wide.f t257 bt259.1).bind fun bt261 => (if bt261.1 ≥ (IntKind.u64.wrap (a2)) then (some (0, false)) else ((bits_Div64.f k bt261.1 bt261.2 (IntKind.u64.wrap (a2))).bind fun bt263 => (if (t258 != bt259.2) = true then (fix_Div.j0 k a3 bt263.1 bt263.2 ((Go.bits .or .u64 bt261.1 bt261.2) != 0)) else (fix_Div.j0 k a3 bt263.1 bt263.2 false)))))) = some (r1, r2) := H; have A6 := Aside0.mk A60; clear A60; replace H := Option.bind_eq_some_iff.mp H; obtain ⟨⟨t259, t260⟩, A70, H⟩ := H; replace H : ((fix_Wide.f t257 t259).bind fun bt261 => (if bt261.1 ≥ (IntKind.u64.wrap (a2)) then (some (0, false)) else ((bits_Div64.f k bt261.1 bt261.2 (IntKind.u64.wrap (a2))).bind fun bt263 => (if (t258 != t260) = true then (fix_Div.j0 k a3 bt263.1 bt263.2 ((Go.bits .or .u64 bt261.1 bt261.2) != 0)) else (fix_Div.j0 k a3 bt263.1 bt263.2 false))))) = some (r1, r2) := H; have A7 := Aside0.mk A70; clear A70; replace H := Option.bind_eq_some_iff.mp H; obtain ⟨⟨t261, t262⟩, A80, H⟩ := H; replace H : (if t261 ≥ (IntKind.u64.wrap (a2)) then (some (0, false)) else ((bits_Div64.f k t261 t262 (IntKind.u64.wrap (a2))).bind fun bt263 => (if (t258 != t260) = true then (fix_Div.j0 k a3 bt263.1 bt263.2 ((Go.bits .or .u64 t261 t262) != 0)) else (fix_Div.j0 k a3 bt263.1 bt263.2 false)))) = some (r1, r2) := H; have A8 := Aside0.mk A80; clear A80; by_cases c9 : t261 ≥ (IntKind.u64.wrap (a2))
  ·
   rw [if_pos c9] at H; have c9b0 : decide ((IntKind.u64.wrap (a2)) ≤ t261) = true := decide_eq_true c9; clear c9; simp only [Option.some.injEq, Prod.mk.injEq] at H; obtain ⟨rfl, rfl⟩ := H
   go_enter Tryd.func40, Tryd.ntmps40
   go_wp2_with (first | ((with_reducible refine gate_callee (f := 52) rfl ?_); refine goesL_ (some 24) rfl rfl Tryd.func52 (by kernel_rfl) rfl #[.int .i64 a0] rfl zM ?_; (with_reducible refine (fix_size.calls a0 t257 t258 _ A6.out).mono ?_); rintro e w' ⟨rfl, ⟨nd, rfl⟩⟩; refine ⟨_, rfl, ?_⟩) | ((with_reducible refine gate_callee (f := 52) rfl ?_); refine goesL_ (some 29) rfl rfl Tryd.func52 (by kernel_rfl) rfl #[.int .i64 a1] rfl zM ?_; (with_reducible refine (fix_size.calls a1 t259 t260 _ A7.out).mono ?_); rintro e w' ⟨rfl, ⟨nd, rfl⟩⟩; refine ⟨_, rfl, ?_⟩) | ((with_reducible refine gate_callee (f := 53) rfl ?_); refine goesL_ (some 35) rfl rfl Tryd.func53 (by kernel_rfl) rfl #[.int .u64 t257, .int .u64 t259] rfl zM ?_; (with_reducible refine (fix_Wide.calls t257 t259 t261 t262 _ A8.out).mono ?_); rintro e w' ⟨rfl, ⟨nd, rfl⟩⟩; refine ⟨_, rfl, ?_⟩))
   go_ret2
   exact ⟨zE, zH HB.out⟩
  ·
   rw [if_neg c9] at H; have c9b0 : decide ((IntKind.u64.wrap (a2)) ≤ t261) = false := decide_eq_false c9; clear c9; replace H := Option.bind_eq_some_iff.mp H; obtain ⟨⟨t263, t264⟩, A100, H⟩ := H; replace H : (if (t258 != t260) = true then (fix_Div.j0 k a3 t263 t264 ((Go.bits .or .u64 t261 t262) != 0)) else (fix_Div.j0 k a3 t263 t264 false)) = some (r1, r2) := H; have A10 := Aside0.mk A100; clear A100; have HC11 := Aside0.mk H; clear H
   go_enter Tryd.func40, Tryd.ntmps40
   go_upto_region 10 with (first | ((with_reducible refine gate_callee (f := 52) rfl ?_); refine goesL_ (some 24) rfl rfl Tryd.func52 (by kernel_rfl) rfl #[.int .i64 a0] rfl zM ?_; (with_reducible refine (fix_size.calls a0 t257 t258 _ A6.out).mono ?_); rintro e w' ⟨rfl, ⟨nd, rfl⟩⟩; refine ⟨_, rfl, ?_⟩) | ((with_reducible refine gate_callee (f := 52) rfl ?_); refine goesL_ (some 29) rfl rfl Tryd.func52 (by kernel_rfl) rfl #[.int .i64 a1] rfl zM ?_; (with_reducible refine (fix_size.calls a1 t259 t260 _ A7.out).mono ?_); rintro e w' ⟨rfl, ⟨nd, rfl⟩⟩; refine ⟨_, rfl, ?_⟩) | ((with_reducible refine gate_callee (f := 53) rfl ?_); refine goesL_ (some 35) rfl rfl Tryd.func53 (by kernel_rfl) rfl #[.int .u64 t257, .int .u64 t259] rfl zM ?_; (with_reducible refine (fix_Wide.calls t257 t259 t261 t262 _ A8.out).mono ?_); rintro e w' ⟨rfl, ⟨nd, rfl⟩⟩; refine ⟨_, rfl, ?_⟩) | ((with_reducible refine gate_callee (f := 54) rfl ?_); refine goesL_ (some 47) rfl rfl Tryd.func54 (by kernel_rfl) rfl #[.int .u64 t261, .int .u64 t262, .int .u64 (IntKind.u64.wrap (a2))] rfl zM ?_; (with_reducible refine (bits_Div64.calls k t261 t262 (IntKind.u64.wrap (a2)) t263 t264 _ ?side1 A10.out).mono ?_); (case side1 => exact GlobOK.below HG.out (zH HB.out)); rintro e w12 ⟨rfl, hb⟩; refine ⟨_, rfl, ?_⟩; have n0_ := Aside0.mk (below_step (zH HB.out) hb); clear HB; have HB := n0_; clear n0_; (try clear hb); (try clear hb2); (try clear hk); (try clear hi)))
   (try simp only [Act.put, zq1, zq2, zq3])
   go_cut [19] (fun v19 wc => ∃ (kq : Nat) (x19_10 : Bool), v19 = .bool x19_10 ∧ Aside0 (fix_Div.j0 kq a3 t263 t264 x19_10 = some (r1, r2)) ∧ Aside0 (kq ≤ k) ∧ Aside0 (Below w.heap.size w wc))
   case first =>
    have H := HC11.out; clear HC11; by_cases c13 : (t258 != t260) = true
    ·
     rw [if_pos c13] at H; have c13b0 : (t258 != t260) = true := c13; (try (have c13b1 : decide (t258 = t260) = false := by simpa using c13)); (try (have c13b2 : (t258 == t260) = false := by simpa using c13)); (try (have c13b3 : ¬ (t258 = t260) := by simpa using c13)); clear c13
     (first | rw [c13b0] | (simp only [i64_w, i32_w]; rw [c13b0]) | skip)
     have H' := Aside0.mk H; clear H
     go_wp2
     go_meet
     case rel => exact ⟨_, (((Go.bits .or .u64 t261 t262) != 0)), zS, H', ⟨by first | omega | exact Nat.le_refl _⟩, ⟨zH HB.out⟩⟩
    ·
     rw [if_neg c13] at H; have c13b0 : (t258 != t260) = false := by simpa using c13
     (try (have c13b1 : decide (t258 = t260) = true := by simpa using c13)); (try (have c13b2 : (t258 == t260) = true := by simpa using c13)); clear c13
     (first | rw [c13b0] | (simp only [i64_w, i32_w]; rw [c13b0]) | skip)
     have H' := Aside0.mk H; clear H
     go_wp2
     go_meet
     case rel => exact ⟨_, (false), zS, H', ⟨by first | omega | exact Nat.le_refl _⟩, ⟨zH HB.out⟩⟩
   case rest =>
    clear HC11
    try clear c1
    try clear p2
    try clear c4
    try clear c5
    try clear c5b0
    try clear c9
    try clear c9b0
    try clear c13
    try clear c13b0
    try clear c13b1
    try clear c13b2
    obtain ⟨kq, x19_10, rfl, HA, HJ10, HB⟩ := hcut
    cases kq with
    | zero => exact absurd HA.out (by simp [fix_Div.j0])
    | succ kj10 =>
     have H := HA.out; clear HA; simp only [fix_Div.j0] at H; have HC14 := Aside0.mk H; clear H
     go_upto_region 11 with (fail)
     go_cut [65] (fun v65 wc => ∃ (kq : Nat) (x65_13 : Bool), v65 = .bool x65_13 ∧ Aside0 (fix_Div.j1 kq t263 x19_10 x65_13 = some (r1, r2)) ∧ Aside0 (kq ≤ kj10) ∧ Aside0 (Below w.heap.size w wc))
     case first =>
      have H := HC14.out; clear HC14; by_cases c15 : t264 > 0
      ·
       rw [if_pos c15] at H; have c15b0 : decide (0 < t264) = true := decide_eq_true c15; clear c15
       (first | rw [c15b0] | (simp only [i64_w, i32_w]; rw [c15b0]) | skip)
       have H' := Aside0.mk H; clear H
       go_wp2
       go_meet
       case rel => exact ⟨_, ((a3 != x19_10)), zS, H', ⟨by have := HJ10.out; first | omega | exact Nat.le_refl _⟩, ⟨zH HB.out⟩⟩
      ·
       rw [if_neg c15] at H; have c15b0 : decide (0 < t264) = false := decide_eq_false c15; clear c15
       (first | rw [c15b0] | (simp only [i64_w, i32_w]; rw [c15b0]) | skip)
       have H' := Aside0.mk H; clear H
       go_wp2
       go_meet
       case rel => exact ⟨_, (false), zS, H', ⟨by have := HJ10.out; first | omega | exact Nat.le_refl _⟩, ⟨zH HB.out⟩⟩
     case rest =>
      clear HC14
      try clear c1
      try clear p2
      try clear c4
      try clear c5
      try clear c5b0
      try clear c9
      try clear c9b0
      try clear c13
      try clear c13b0
      try clear c13b1
      try clear c13b2
      try clear c15
      try clear c15b0
      try clear p2
      obtain ⟨kq, x65_13, rfl, HA, HJ13, HB⟩ := hcut
      cases kq with
      | zero => exact absurd HA.out (by simp [fix_Div.j1])
      | succ kj13 =>
       have H := HA.out; clear HA; simp only [fix_Div.j1] at H; by_cases c16 : x65_13 = true
       ·
        subst c16; have H1 : (if (IntKind.u64.wrap (t263 + 1)) = 0 then (some (0, false)) else ((fix_signed.f kj13 (IntKind.u64.wrap (t263 + 1)) x19_10).bind fun bt265 => (some (bt265.1, bt265.2)))) = some (r1, r2) := by rw [if_pos rfl] at H; exact H
        clear H; have H := H1; clear H1; by_cases c17 : (IntKind.u64.wrap (t263 + 1)) = 0
        ·
         rw [if_pos c17] at H; have c17b0 : ((IntKind.u64.wrap (t263 + 1)) == 0) = true := beq_iff_eq.mpr c17; have c17b1 : ((IntKind.u64.wrap (t263 + 1)) != 0) = false := bne_eq_false_iff_eq.mpr c17; clear c17; simp only [Option.some.injEq, Prod.mk.injEq] at H; obtain ⟨rfl, rfl⟩ := H
         go_wp2
         go_ret2
         exact ⟨zE, zH HB.out⟩
        ·
         rw [if_neg c17] at H; have c17b0 : ((IntKind.u64.wrap (t263 + 1)) == 0) = false := beq_eq_false_iff_ne.mpr c17; have c17b1 : ((IntKind.u64.wrap (t263 + 1)) != 0) = true := bne_iff_ne.mpr c17; replace H := Option.bind_eq_some_iff.mp H; obtain ⟨⟨t265, t266⟩, A180, H⟩ := H; replace H : (some (t265, t266)) = some (r1, r2) := H; have A18 := Aside0.mk A180; clear A180; simp only [Option.some.injEq, Prod.mk.injEq] at H; obtain ⟨rfl, rfl⟩ := H
         go_wp2_with (first | ((with_reducible refine gate_callee (f := 55) rfl ?_); refine goesL_ (some 72) rfl rfl Tryd.func55 (by kernel_rfl) rfl #[.int .u64 (IntKind.u64.wrap (t263 + 1)), .bool x19_10] rfl zM ?_; (with_reducible refine (fix_signed.calls kj13 (IntKind.u64.wrap (t263 + 1)) x19_10 t265 t266 _ A18.out).mono ?_); rintro e w' ⟨rfl, ⟨nd, rfl⟩⟩; refine ⟨_, rfl, ?_⟩))
         go_ret2
         exact ⟨zE, zH HB.out⟩
       ·
        replace c16 := Bool.eq_false_iff.mpr c16; subst c16; have H1 : ((fix_signed.f kj13 t263 x19_10).bind fun bt267 => (some (bt267.1, bt267.2))) = some (r1, r2) := by rw [if_neg (show ¬ (false = true) by decide)] at H; exact H
        clear H; have H := H1; clear H1; replace H := Option.bind_eq_some_iff.mp H; obtain ⟨⟨t267, t268⟩, A190, H⟩ := H; replace H : (some (t267, t268)) = some (r1, r2) := H; have A19 := Aside0.mk A190; clear A190; simp only [Option.some.injEq, Prod.mk.injEq] at H; obtain ⟨rfl, rfl⟩ := H
        go_wp2_with (first | ((with_reducible refine gate_callee (f := 55) rfl ?_); refine goesL_ (some 72) rfl rfl Tryd.func55 (by kernel_rfl) rfl #[.int .u64 t263, .bool x19_10] rfl zM ?_; (with_reducible refine (fix_signed.calls kj13 t263 x19_10 t267 t268 _ A19.out).mono ?_); rintro e w' ⟨rfl, ⟨nd, rfl⟩⟩; refine ⟨_, rfl, ?_⟩))
        go_ret2
        exact ⟨zE, zH HB.out⟩

/-! ### bound_Least: function 23 -/
def bound_Least.f (k : Nat) (l0_0 : List (S47)) (l0_1 : List Int) (a0_2 : Int) (a1 : Int) (a2 : Int) : Option (Int × Bool) := (bound_is.f l0_0 l0_1 a0_2 a1).bind fun t270 => (if t270 = true then (if a2 ≤ 0 then (some (0, true)) else ((bound_Rate.f k l0_0 l0_1 a0_2 a1).bind fun bt271 => (if bt271.2.2 = true then ((fix_Div.f k a2 bt271.1 bt271.2.1 true).bind fun bt274 => (some (bt274.1, bt274.2))) else (some (0, false))))) else (some (0, false)))
theorem bound_Least.mono : ∀ a0 a1 a2 a3 a4 k, LeO (bound_Least.f k a0 a1 a2 a3 a4) (bound_Least.f (k + 1) a0 a1 a2 a3 a4) := by
 intro a0 a1 a2 a3 a4 k; unfold bound_Least.f
 repeat' first
   | (with_reducible exact bound_Rate.mono _ _ _ _ _)
   | (with_reducible exact fix_Div.mono _ _ _ _ _)
   | (with_reducible exact LeO.refl _)
   | (with_reducible exact LeO.none _)
   | (with_reducible refine LeO.ite ?_ ?_)
   | (with_reducible refine LeO.bind ?_ (fun _ => ?_))
   | exact bound_Rate.mono _ _ _ _ _
   | exact fix_Div.mono _ _ _ _ _
   | exact LeO.none _
   | refine LeO.ite ?_ ?_
   | refine LeO.bind ?_ (fun _ => ?_)
set_option maxHeartbeats 8000000 in
set_option maxRecDepth 100000 in
theorem bound_Least.calls [Inhabited (Int → Addr)] (k : Nat) (A0_0 : Option Addr) (c0_0 : Nat) (l0_0 : List (S47)) (A0_1 : Option Addr) (c0_1 : Nat) (l0_1 : List Int) (a0_2 : Int) (a1 : Int) (a2 : Int) (r1 : Int) (r2 : Bool) (w : World) (hG : GlobOK w) (hr0_0 : Kd.C k47 w A0_0 l0_0.length l0_0) (hc0_0 : l0_0.length ≤ c0_0) (hr0_1 : Kd.C (Kd.int .i64) w A0_1 l0_1.length l0_1) (hc0_1 : l0_1.length ≤ c0_1) (h : bound_Least.f k l0_0 l0_1 a0_2 a1 a2 = some (r1, r2)) :
  Calls Tryd.prog 23 #[.agg #[.slice A0_0 l0_0.length c0_0, .slice A0_1 l0_1.length c0_1, .int .i64 a0_2], .int .i64 a1, .int .i64 a2] w fun e w' => e = .returned (.tuple #[.int .i64 r1, .bool r2]) ∧ Below w.heap.size w w' := by
 have hu25 := Tryd.underlying25; have HG := Aside0.mk hG; clear hG; have HR0_0 := Aside0.mk hr0_0; have HC0_0 := Aside0.mk hc0_0; clear hr0_0 hc0_0; have HR0_1 := Aside0.mk hr0_1; have HC0_1 := Aside0.mk hc0_1; clear hr0_1 hc0_1; have HB := Aside0.mk (Below.refl w.heap.size w); have H : ((bound_is.f l0_0 l0_1 a0_2 a1).bind fun t270 => (if t270 = true then (if a2 ≤ 0 then (some (0, true)) else ((bound_Rate.f k l0_0 l0_1 a0_2 a1).bind fun bt271 => (if bt271.2.2 = true then ((fix_Div.f k a2 bt271.1 bt271.2.1 true).bind fun bt274 => (some (bt274.1, bt274.2))) else (some (0, false))))) else (some (0, false)))) = some (r1, r2) := h; clear h; replace H := Option.bind_eq_some_iff.mp H; obtain ⟨t270, A40, H⟩ := H; replace H : (if t270 = true then (if a2 ≤ 0 then (some (0, true)) else ((bound_Rate.f k l0_0 l0_1 a0_2 a1).bind fun bt271 => (if bt271.2.2 = true then ((fix_Div.f k a2 bt271.1 bt271.2.1 true).bind fun bt274 => (some (bt274.1, bt274.2))) else (some (0, false))))) else (some (0, false))) = some (r1, r2) := H; have A4 := Aside0.mk A40; clear A40; by_cases c5 : t270 = true
 ·
  subst c5; have H1 : (if a2 ≤ 0 then (some (0, true)) else ((bound_Rate.f k l0_0 l0_1 a0_2 a1).bind fun bt271 => (if bt271.2.2 = true then ((fix_Div.f k a2 bt271.1 bt271.2.1 true).bind fun bt274 => (some (bt274.1, bt274.2))) else (some (0, false))))) = some (r1, r2) := by rw [if_pos rfl] at H; exact H
  clear H; have H := H1; clear H1; by_cases c6 : a2 ≤ 0
  ·
   rw [if_pos c6] at H; have c6b0 : decide (a2 ≤ 0) = true := decide_eq_true c6; clear c6; simp only [Option.some.injEq, Prod.mk.injEq] at H; obtain ⟨rfl, rfl⟩ := H
   go_enter Tryd.func23, Tryd.ntmps23
   go_wp2_with (first | ((with_reducible refine gate_dst (N := 3) rfl ?_); refine box_event ?hg (N := 3) ?hd (cs := #[.slice A0_0 l0_0.length c0_0, .slice A0_1 l0_1.length c0_1, .int .i64 a0_2]) (t := 25) ?hr ?_; (case hd => rfl); (case hg => rfl); (case hr => first | (go_simp; done) | (go_simp; rfl)); intro gb269 hg w7 hbox hb; have n0_ := Aside0.mk (below_step (zH HB.out) hb); have n1_ := Aside0.mk (hbox); have n2_ := Aside0.mk (zg hg (below_size (zH HB.out)) : w.heap.size ≤ gb269); have n3_ := Aside0.mk (zg hg (below_size (zH HB.out)) : w.heap.size ≤ gb269); clear HB; have HB := n0_; have BK269 := n1_; have GW269 := n2_; have GE269 := n3_; clear n0_ n1_ n2_ n3_; clear hb hbox hg; have hcz8_0 : w7.cell? ⟨gb269, 0, none⟩ = some (.slice A0_0 l0_0.length c0_0) := (blk_cell BK269.out 0).trans rfl; have hcz8_1 : w7.cell? ⟨gb269, 1, none⟩ = some (.slice A0_1 l0_1.length c0_1) := (blk_cell BK269.out 1).trans rfl; have hcz8_2 : w7.cell? ⟨gb269, 2, none⟩ = some (.int .i64 a0_2) := (blk_cell BK269.out 2).trans rfl; have hfz8_0 := blk_frozen BK269.out 0; have hfz8_1 := blk_frozen BK269.out 1; have hfz8_2 := blk_frozen BK269.out 2) | ((with_reducible refine gate_callee (f := 38) rfl ?_); refine goesL_ (some 13) rfl rfl Tryd.func38 (by kernel_rfl) rfl #[.agg #[.slice A0_0 l0_0.length c0_0, .slice A0_1 l0_1.length c0_1, .int .i64 a0_2], .int .i64 a1] rfl zM ?_; (with_reducible refine (bound_is.calls _ _ l0_0 _ _ l0_1 a0_2 a1 true _ ?side1 ?side2 ?side3 ?side4 ?side5 A4.out).mono ?_); (case side1 => exact GlobOK.below HG.out (zH1 HB.out GE269.out)); (case side2 => exact zC HR0_0.out HB.out); (case side3 => exact HC0_0.out); (case side4 => exact zC HR0_1.out HB.out); (case side5 => exact HC0_1.out); rintro e w9 ⟨rfl, hb⟩; refine ⟨_, rfl, ?_⟩; have n0_ := zBB BK269 hb; have n1_ := Aside0.mk (below_step (zH1 HB.out GE269.out) hb); clear BK269; clear HB; have BK269 := n0_; have HB := n1_; clear n0_ n1_; (try clear hb); (try clear hb2); (try clear hk); (try clear hi)))
   go_ret2
   exact ⟨zE, zH1 HB.out GE269.out⟩
  ·
   rw [if_neg c6] at H; have c6b0 : decide (a2 ≤ 0) = false := decide_eq_false c6; clear c6; replace H := Option.bind_eq_some_iff.mp H; obtain ⟨⟨t271, t272, t273⟩, A100, H⟩ := H; replace H : (if t273 = true then ((fix_Div.f k a2 t271 t272 true).bind fun bt274 => (some (bt274.1, bt274.2))) else (some (0, false))) = some (r1, r2) := H; have A10 := Aside0.mk A100; clear A100; by_cases c11 : t273 = true
   ·
    subst c11; have H1 : ((fix_Div.f k a2 t271 t272 true).bind fun bt274 => (some (bt274.1, bt274.2))) = some (r1, r2) := by rw [if_pos rfl] at H; exact H
    clear H; have H := H1; clear H1; replace H := Option.bind_eq_some_iff.mp H; obtain ⟨⟨t274, t275⟩, A120, H⟩ := H; replace H : (some (t274, t275)) = some (r1, r2) := H; have A12 := Aside0.mk A120; clear A120; simp only [Option.some.injEq, Prod.mk.injEq] at H; obtain ⟨rfl, rfl⟩ := H
    go_enter Tryd.func23, Tryd.ntmps23
    go_wp2_with (first | ((with_reducible refine gate_dst (N := 3) rfl ?_); refine box_event ?hg (N := 3) ?hd (cs := #[.slice A0_0 l0_0.length c0_0, .slice A0_1 l0_1.length c0_1, .int .i64 a0_2]) (t := 25) ?hr ?_; (case hd => rfl); (case hg => rfl); (case hr => first | (go_simp; done) | (go_simp; rfl)); intro gb269 hg w13 hbox hb; have n0_ := Aside0.mk (below_step (zH HB.out) hb); have n1_ := Aside0.mk (hbox); have n2_ := Aside0.mk (zg hg (below_size (zH HB.out)) : w.heap.size ≤ gb269); have n3_ := Aside0.mk (zg hg (below_size (zH HB.out)) : w.heap.size ≤ gb269); clear HB; have HB := n0_; have BK269 := n1_; have GW269 := n2_; have GE269 := n3_; clear n0_ n1_ n2_ n3_; clear hb hbox hg; have hcz14_0 : w13.cell? ⟨gb269, 0, none⟩ = some (.slice A0_0 l0_0.length c0_0) := (blk_cell BK269.out 0).trans rfl; have hcz14_1 : w13.cell? ⟨gb269, 1, none⟩ = some (.slice A0_1 l0_1.length c0_1) := (blk_cell BK269.out 1).trans rfl; have hcz14_2 : w13.cell? ⟨gb269, 2, none⟩ = some (.int .i64 a0_2) := (blk_cell BK269.out 2).trans rfl; have hfz14_0 := blk_frozen BK269.out 0; have hfz14_1 := blk_frozen BK269.out 1; have hfz14_2 := blk_frozen BK269.out 2) | ((with_reducible refine gate_callee (f := 38) rfl ?_); refine goesL_ (some 13) rfl rfl Tryd.func38 (by kernel_rfl) rfl #[.agg #[.slice A0_0 l0_0.length c0_0, .slice A0_1 l0_1.length c0_1, .int .i64 a0_2], .int .i64 a1] rfl zM ?_; (with_reducible refine (bound_is.calls _ _ l0_0 _ _ l0_1 a0_2 a1 true _ ?side1 ?side2 ?side3 ?side4 ?side5 A4.out).mono ?_); (case side1 => exact GlobOK.below HG.out (zH1 HB.out GE269.out)); (case side2 => exact zC HR0_0.out HB.out); (case side3 => exact HC0_0.out); (case side4 => exact zC HR0_1.out HB.out); (case side5 => exact HC0_1.out); rintro e w15 ⟨rfl, hb⟩; refine ⟨_, rfl, ?_⟩; have n0_ := zBB BK269 hb; have n1_ := Aside0.mk (below_step (zH1 HB.out GE269.out) hb); clear BK269; clear HB; have BK269 := n0_; have HB := n1_; clear n0_ n1_; (try clear hb); (try clear hb2); (try clear hk); (try clear hi); have hcz16_0 : w15.cell? ⟨gb269, 0, none⟩ = some (.slice A0_0 l0_0.length c0_0) := (blk_cell BK269.out 0).trans rfl; have hcz16_1 : w15.cell? ⟨gb269, 1, none⟩ = some (.slice A0_1 l0_1.length c0_1) := (blk_cell BK269.out 1).trans rfl; have hcz16_2 : w15.cell? ⟨gb269, 2, none⟩ = some (.int .i64 a0_2) := (blk_cell BK269.out 2).trans rfl; have hfz16_0 := blk_frozen BK269.out 0; have hfz16_1 := blk_frozen BK269.out 1; have hfz16_2 := blk_frozen BK269.out 2) | ((with_reducible refine gate_callee (f := 39) rfl ?_); refine goesL_ (some 20) rfl rfl Tryd.func39 (by kernel_rfl) rfl #[.agg #[.slice A0_0 l0_0.length c0_0, .slice A0_1 l0_1.length c0_1, .int .i64 a0_2], .int .i64 a1] rfl zM ?_; (with_reducible refine (bound_Rate.calls k _ _ l0_0 _ _ l0_1 a0_2 a1 t271 t272 true _ ?side1 ?side2 ?side3 ?side4 ?side5 A10.out).mono ?_); (case side1 => exact GlobOK.below HG.out (zH1 HB.out GE269.out)); (case side2 => exact zC HR0_0.out HB.out); (case side3 => exact HC0_0.out); (case side4 => exact zC HR0_1.out HB.out); (case side5 => exact HC0_1.out); rintro e w17 ⟨rfl, hb⟩; refine ⟨_, rfl, ?_⟩; have n0_ := zBB BK269 hb; have n1_ := Aside0.mk (below_step (zH1 HB.out GE269.out) hb); clear BK269; clear HB; have BK269 := n0_; have HB := n1_; clear n0_ n1_; (try clear hb); (try clear hb2); (try clear hk); (try clear hi)) | ((with_reducible refine gate_callee (f := 40) rfl ?_); refine goesL_ (some 29) rfl rfl Tryd.func40 (by kernel_rfl) rfl #[.int .i64 a2, .int .i64 t271, .int .i64 t272, .bool true] rfl zM ?_; (with_reducible refine (fix_Div.calls k a2 t271 t272 true t274 t275 _ ?side1 A12.out).mono ?_); (case side1 => exact GlobOK.below HG.out (zH1 HB.out GE269.out)); rintro e w18 ⟨rfl, hb⟩; refine ⟨_, rfl, ?_⟩; have n0_ := zBB BK269 hb; have n1_ := Aside0.mk (below_step (zH1 HB.out GE269.out) hb); clear BK269; clear HB; have BK269 := n0_; have HB := n1_; clear n0_ n1_; (try clear hb); (try clear hb2); (try clear hk); (try clear hi)))
    go_ret2
    exact ⟨zE, zH1 HB.out GE269.out⟩
   ·
    replace c11 := Bool.eq_false_iff.mpr c11; subst c11; have H1 : (some (0, false)) = some (r1, r2) := by rw [if_neg (show ¬ (false = true) by decide)] at H; exact H
    clear H; have H := H1; clear H1; simp only [Option.some.injEq, Prod.mk.injEq] at H; obtain ⟨rfl, rfl⟩ := H
    go_enter Tryd.func23, Tryd.ntmps23
    go_wp2_with (first | ((with_reducible refine gate_dst (N := 3) rfl ?_); refine box_event ?hg (N := 3) ?hd (cs := #[.slice A0_0 l0_0.length c0_0, .slice A0_1 l0_1.length c0_1, .int .i64 a0_2]) (t := 25) ?hr ?_; (case hd => rfl); (case hg => rfl); (case hr => first | (go_simp; done) | (go_simp; rfl)); intro gb269 hg w19 hbox hb; have n0_ := Aside0.mk (below_step (zH HB.out) hb); have n1_ := Aside0.mk (hbox); have n2_ := Aside0.mk (zg hg (below_size (zH HB.out)) : w.heap.size ≤ gb269); have n3_ := Aside0.mk (zg hg (below_size (zH HB.out)) : w.heap.size ≤ gb269); clear HB; have HB := n0_; have BK269 := n1_; have GW269 := n2_; have GE269 := n3_; clear n0_ n1_ n2_ n3_; clear hb hbox hg; have hcz20_0 : w19.cell? ⟨gb269, 0, none⟩ = some (.slice A0_0 l0_0.length c0_0) := (blk_cell BK269.out 0).trans rfl; have hcz20_1 : w19.cell? ⟨gb269, 1, none⟩ = some (.slice A0_1 l0_1.length c0_1) := (blk_cell BK269.out 1).trans rfl; have hcz20_2 : w19.cell? ⟨gb269, 2, none⟩ = some (.int .i64 a0_2) := (blk_cell BK269.out 2).trans rfl; have hfz20_0 := blk_frozen BK269.out 0; have hfz20_1 := blk_frozen BK269.out 1; have hfz20_2 := blk_frozen BK269.out 2) | ((with_reducible refine gate_callee (f := 38) rfl ?_); refine goesL_ (some 13) rfl rfl Tryd.func38 (by kernel_rfl) rfl #[.agg #[.slice A0_0 l0_0.length c0_0, .slice A0_1 l0_1.length c0_1, .int .i64 a0_2], .int .i64 a1] rfl zM ?_; (with_reducible refine (bound_is.calls _ _ l0_0 _ _ l0_1 a0_2 a1 true _ ?side1 ?side2 ?side3 ?side4 ?side5 A4.out).mono ?_); (case side1 => exact GlobOK.below HG.out (zH1 HB.out GE269.out)); (case side2 => exact zC HR0_0.out HB.out); (case side3 => exact HC0_0.out); (case side4 => exact zC HR0_1.out HB.out); (case side5 => exact HC0_1.out); rintro e w21 ⟨rfl, hb⟩; refine ⟨_, rfl, ?_⟩; have n0_ := zBB BK269 hb; have n1_ := Aside0.mk (below_step (zH1 HB.out GE269.out) hb); clear BK269; clear HB; have BK269 := n0_; have HB := n1_; clear n0_ n1_; (try clear hb); (try clear hb2); (try clear hk); (try clear hi); have hcz22_0 : w21.cell? ⟨gb269, 0, none⟩ = some (.slice A0_0 l0_0.length c0_0) := (blk_cell BK269.out 0).trans rfl; have hcz22_1 : w21.cell? ⟨gb269, 1, none⟩ = some (.slice A0_1 l0_1.length c0_1) := (blk_cell BK269.out 1).trans rfl; have hcz22_2 : w21.cell? ⟨gb269, 2, none⟩ = some (.int .i64 a0_2) := (blk_cell BK269.out 2).trans rfl; have hfz22_0 := blk_frozen BK269.out 0; have hfz22_1 := blk_frozen BK269.out 1; have hfz22_2 := blk_frozen BK269.out 2) | ((with_reducible refine gate_callee (f := 39) rfl ?_); refine goesL_ (some 20) rfl rfl Tryd.func39 (by kernel_rfl) rfl #[.agg #[.slice A0_0 l0_0.length c0_0, .slice A0_1 l0_1.length c0_1, .int .i64 a0_2], .int .i64 a1] rfl zM ?_; (with_reducible refine (bound_Rate.calls k _ _ l0_0 _ _ l0_1 a0_2 a1 t271 t272 false _ ?side1 ?side2 ?side3 ?side4 ?side5 A10.out).mono ?_); (case side1 => exact GlobOK.below HG.out (zH1 HB.out GE269.out)); (case side2 => exact zC HR0_0.out HB.out); (case side3 => exact HC0_0.out); (case side4 => exact zC HR0_1.out HB.out); (case side5 => exact HC0_1.out); rintro e w23 ⟨rfl, hb⟩; refine ⟨_, rfl, ?_⟩; have n0_ := zBB BK269 hb; have n1_ := Aside0.mk (below_step (zH1 HB.out GE269.out) hb); clear BK269; clear HB; have BK269 := n0_; have HB := n1_; clear n0_ n1_; (try clear hb); (try clear hb2); (try clear hk); (try clear hi)))
    go_ret2
    exact ⟨zE, zH1 HB.out GE269.out⟩
 ·
  replace c5 := Bool.eq_false_iff.mpr c5; subst c5; have H1 : (some (0, false)) = some (r1, r2) := by rw [if_neg (show ¬ (false = true) by decide)] at H; exact H
  clear H; have H := H1; clear H1; simp only [Option.some.injEq, Prod.mk.injEq] at H; obtain ⟨rfl, rfl⟩ := H
  go_enter Tryd.func23, Tryd.ntmps23
  go_wp2_with (first | ((with_reducible refine gate_dst (N := 3) rfl ?_); refine box_event ?hg (N := 3) ?hd (cs := #[.slice A0_0 l0_0.length c0_0, .slice A0_1 l0_1.length c0_1, .int .i64 a0_2]) (t := 25) ?hr ?_; (case hd => rfl); (case hg => rfl); (case hr => first | (go_simp; done) | (go_simp; rfl)); intro gb269 hg w24 hbox hb; have n0_ := Aside0.mk (below_step (zH HB.out) hb); have n1_ := Aside0.mk (hbox); have n2_ := Aside0.mk (zg hg (below_size (zH HB.out)) : w.heap.size ≤ gb269); have n3_ := Aside0.mk (zg hg (below_size (zH HB.out)) : w.heap.size ≤ gb269); clear HB; have HB := n0_; have BK269 := n1_; have GW269 := n2_; have GE269 := n3_; clear n0_ n1_ n2_ n3_; clear hb hbox hg; have hcz25_0 : w24.cell? ⟨gb269, 0, none⟩ = some (.slice A0_0 l0_0.length c0_0) := (blk_cell BK269.out 0).trans rfl; have hcz25_1 : w24.cell? ⟨gb269, 1, none⟩ = some (.slice A0_1 l0_1.length c0_1) := (blk_cell BK269.out 1).trans rfl; have hcz25_2 : w24.cell? ⟨gb269, 2, none⟩ = some (.int .i64 a0_2) := (blk_cell BK269.out 2).trans rfl; have hfz25_0 := blk_frozen BK269.out 0; have hfz25_1 := blk_frozen BK269.out 1; have hfz25_2 := blk_frozen BK269.out 2) | ((with_reducible refine gate_callee (f := 38) rfl ?_); refine goesL_ (some 13) rfl rfl Tryd.func38 (by kernel_rfl) rfl #[.agg #[.slice A0_0 l0_0.length c0_0, .slice A0_1 l0_1.length c0_1, .int .i64 a0_2], .int .i64 a1] rfl zM ?_; (with_reducible refine (bound_is.calls _ _ l0_0 _ _ l0_1 a0_2 a1 false _ ?side1 ?side2 ?side3 ?side4 ?side5 A4.out).mono ?_); (case side1 => exact GlobOK.below HG.out (zH1 HB.out GE269.out)); (case side2 => exact zC HR0_0.out HB.out); (case side3 => exact HC0_0.out); (case side4 => exact zC HR0_1.out HB.out); (case side5 => exact HC0_1.out); rintro e w26 ⟨rfl, hb⟩; refine ⟨_, rfl, ?_⟩; have n0_ := zBB BK269 hb; have n1_ := Aside0.mk (below_step (zH1 HB.out GE269.out) hb); clear BK269; clear HB; have BK269 := n0_; have HB := n1_; clear n0_ n1_; (try clear hb); (try clear hb2); (try clear hk); (try clear hi)))
  go_ret2
  exact ⟨zE, zH1 HB.out GE269.out⟩

/-! ### cert_Gap: function 11 -/
def cert_Gap.f (k : Nat) (l0_0 : List (S47)) (l0_1 : List Int) (a0_2 : Int) (l1_0 : List Int) (a1_1 : Int) (a1_2 : Int) (a1_3 : Bool) (a1_4 : Int) : Option (Int × Option Int) := (cert_Check.f k l0_0 l0_1 a0_2 l1_0 a1_1 a1_2 a1_3 a1_4).bind fun t278 => (if t278.isNone = true then ((bound_Least.f k l0_0 l0_1 a0_2 0 a0_2).bind fun bt280 => (if bt280.2 = true then (some (mx (wrap64 (a1_2 - bt280.1)) 0, none)) else (some (0, none)))) else (some (0, some (t278.getD 0))))
theorem cert_Gap.mono : ∀ a0 a1 a2 a3 a4 a5 a6 a7 k, LeO (cert_Gap.f k a0 a1 a2 a3 a4 a5 a6 a7) (cert_Gap.f (k + 1) a0 a1 a2 a3 a4 a5 a6 a7) := by
 intro a0 a1 a2 a3 a4 a5 a6 a7 k; unfold cert_Gap.f
 repeat' first
   | (with_reducible exact bound_Least.mono _ _ _ _ _ _)
   | (with_reducible exact cert_Check.mono _ _ _ _ _ _ _ _ _)
   | (with_reducible exact LeO.refl _)
   | (with_reducible exact LeO.none _)
   | (with_reducible refine LeO.ite ?_ ?_)
   | (with_reducible refine LeO.bind ?_ (fun _ => ?_))
   | exact bound_Least.mono _ _ _ _ _ _
   | exact cert_Check.mono _ _ _ _ _ _ _ _ _
   | exact LeO.none _
   | refine LeO.ite ?_ ?_
   | refine LeO.bind ?_ (fun _ => ?_)
set_option maxHeartbeats 8000000 in
set_option maxRecDepth 100000 in
theorem cert_Gap.calls [Inhabited (Int → Addr)] (k : Nat) (A0_0 : Option Addr) (c0_0 : Nat) (l0_0 : List (S47)) (A0_1 : Option Addr) (c0_1 : Nat) (l0_1 : List Int) (a0_2 : Int) (A1_0 : Option Addr) (c1_0 : Nat) (l1_0 : List Int) (a1_1 : Int) (a1_2 : Int) (a1_3 : Bool) (a1_4 : Int) (r1 : Int) (r2 : Option Int) (w : World) (hG : GlobOK w) (hr0_0 : Kd.C k47 w A0_0 l0_0.length l0_0) (hc0_0 : l0_0.length ≤ c0_0) (hr0_1 : Kd.C (Kd.int .i64) w A0_1 l0_1.length l0_1) (hc0_1 : l0_1.length ≤ c0_1) (hr1_0 : Kd.C (Kd.int .i64) w A1_0 l1_0.length l1_0) (hc1_0 : l1_0.length ≤ c1_0) (h : cert_Gap.f k l0_0 l0_1 a0_2 l1_0 a1_1 a1_2 a1_3 a1_4 = some (r1, r2)) :
  Calls Tryd.prog 11 #[.agg #[.slice A0_0 l0_0.length c0_0, .slice A0_1 l0_1.length c0_1, .int .i64 a0_2], .agg #[.slice A1_0 l1_0.length c1_0, .int .i64 a1_1, .int .i64 a1_2, .bool a1_3, .int .i64 a1_4]] w fun e w' => e = .returned (.tuple #[.int .i64 r1, errW r2]) ∧ Below w.heap.size w w' := by
 have hu25 := Tryd.underlying25; have hu28 := Tryd.underlying28; have hu36 := Tryd.underlying36; have hu107 := Tryd.underlying107; have HG := Aside0.mk hG; clear hG; have HR0_0 := Aside0.mk hr0_0; have HC0_0 := Aside0.mk hc0_0; clear hr0_0 hc0_0; have HR0_1 := Aside0.mk hr0_1; have HC0_1 := Aside0.mk hc0_1; clear hr0_1 hc0_1; have HR1_0 := Aside0.mk hr1_0; have HC1_0 := Aside0.mk hc1_0; clear hr1_0 hc1_0; have HB := Aside0.mk (Below.refl w.heap.size w); have H : ((cert_Check.f k l0_0 l0_1 a0_2 l1_0 a1_1 a1_2 a1_3 a1_4).bind fun t278 => (if t278.isNone = true then ((bound_Least.f k l0_0 l0_1 a0_2 0 a0_2).bind fun bt280 => (if bt280.2 = true then (some (mx (wrap64 (a1_2 - bt280.1)) 0, none)) else (some (0, none)))) else (some (0, some (t278.getD 0))))) = some (r1, r2) := h; clear h; replace H := Option.bind_eq_some_iff.mp H; obtain ⟨t278, A30, H⟩ := H; replace H : (if t278.isNone = true then ((bound_Least.f k l0_0 l0_1 a0_2 0 a0_2).bind fun bt280 => (if bt280.2 = true then (some (mx (wrap64 (a1_2 - bt280.1)) 0, none)) else (some (0, none)))) else (some (0, some (t278.getD 0)))) = some (r1, r2) := H; have A3 := Aside0.mk A30; clear A30
 rcases t278 with _ | q279
 ·
  have H1 : ((bound_Least.f k l0_0 l0_1 a0_2 0 a0_2).bind fun bt280 => (if bt280.2 = true then (some (mx (wrap64 (a1_2 - bt280.1)) 0, none)) else (some (0, none)))) = some (r1, r2) := by rw [if_pos (show (none : Option Int).isNone = true by rfl)] at H; exact H
  clear H; have H := H1; clear H1
  try simp only [errW_none, errW_some]
  replace H := Option.bind_eq_some_iff.mp H; obtain ⟨⟨t280, t281⟩, A40, H⟩ := H; replace H : (if t281 = true then (some (mx (wrap64 (a1_2 - t280)) 0, none)) else (some (0, none))) = some (r1, r2) := H; have A4 := Aside0.mk A40; clear A40; by_cases c5 : t281 = true
  ·
   subst c5; have H1 : (some (mx (wrap64 (a1_2 - t280)) 0, none)) = some (r1, r2) := by rw [if_pos rfl] at H; exact H
   clear H; have H := H1; clear H1; obtain ⟨ji6, hji6⟩ : ∃ j_ : Int, (mx (wrap64 (a1_2 - t280)) 0) = j_ := ⟨_, rfl⟩; replace H : (some (ji6, none)) = some (r1, r2) := by first | (rw [hji6] at H; exact H) | (simp only [hji6] at H ⊢; exact H)
   (try rw [hji6] at A3); (try rw [hji6] at A4); (try (have hji6l : 0 ≤ ji6 := by (rw [← hji6]; unfold mx; (repeat' split) <;> omega))); (try (have hji6m : 0 ≤ ji6 := by omega)); have hji6_ : (if (wrap64 (a1_2 - t280)) < 0 then 0 else (wrap64 (a1_2 - t280))) = ji6 := hji6; simp only [Option.some.injEq, Prod.mk.injEq] at H; obtain ⟨rfl, rfl⟩ := H
   go_enter Tryd.func11, Tryd.ntmps11
   go_wp2_with (first | ((with_reducible refine gate_dst (N := 2) rfl ?_); refine box_event ?hg (N := 2) ?hd (cs := #[.slice A0_0 l0_0.length c0_0, .slice A0_1 l0_1.length c0_1, .int .i64 a0_2]) (t := 25) ?hr ?_; (case hd => rfl); (case hg => rfl); (case hr => first | (go_simp; done) | (go_simp; rfl)); intro gb276 hg w7 hbox hb; have n0_ := Aside0.mk (below_step (zH HB.out) hb); have n1_ := Aside0.mk (hbox); have n2_ := Aside0.mk (zg hg (below_size (zH HB.out)) : w.heap.size ≤ gb276); have n3_ := Aside0.mk (zg hg (below_size (zH HB.out)) : w.heap.size ≤ gb276); clear HB; have HB := n0_; have BK276 := n1_; have GW276 := n2_; have GE276 := n3_; clear n0_ n1_ n2_ n3_; clear hb hbox hg) | ((with_reducible refine gate_dst (N := 3) rfl ?_); refine box_event ?hg (N := 3) ?hd (cs := #[.slice A1_0 l1_0.length c1_0, .int .i64 a1_1, .int .i64 a1_2, .bool a1_3, .int .i64 a1_4]) (t := 28) ?hr ?_; (case hd => rfl); (case hg => rfl); (case hr => first | (go_simp; done) | (go_simp; rfl)); intro gb277 hg w8 hbox hb; have n0_ := zBB BK276 hb; have n1_ := Aside0.mk (below_step (zH1 HB.out GE276.out) hb); have n2_ := Aside0.mk (hbox); have n3_ := Aside0.mk (zg hg (below_size (zH1 HB.out GE276.out)) : w.heap.size ≤ gb277); have n4_ := Aside0.mk (zg hg (below_size (zH1 HB.out GE276.out)) : w.heap.size ≤ gb277); have n5_ := Aside0.mk (zN hg BK276 : gb276 ≠ gb277); have n6_ := Aside0.mk (zO hg BK276 : gb277 ≠ gb276); clear BK276; clear HB; have BK276 := n0_; have HB := n1_; have BK277 := n2_; have GW277 := n3_; have GE277 := n4_; have NB276_277 := n5_; have NB277_276 := n6_; clear n0_ n1_ n2_ n3_ n4_ n5_ n6_; clear hb hbox hg; have hnb9 := NB276_277.out; have hnc9 := NB277_276.out; have hcz10_0 : w8.cell? ⟨gb276, 0, none⟩ = some (.slice A0_0 l0_0.length c0_0) := (blk_cell BK276.out 0).trans rfl; have hcz10_1 : w8.cell? ⟨gb276, 1, none⟩ = some (.slice A0_1 l0_1.length c0_1) := (blk_cell BK276.out 1).trans rfl; have hcz10_2 : w8.cell? ⟨gb276, 2, none⟩ = some (.int .i64 a0_2) := (blk_cell BK276.out 2).trans rfl; have hfz10_0 := blk_frozen BK276.out 0; have hfz10_1 := blk_frozen BK276.out 1; have hfz10_2 := blk_frozen BK276.out 2; have hcz11_0 : w8.cell? ⟨gb277, 0, none⟩ = some (.slice A1_0 l1_0.length c1_0) := (blk_cell BK277.out 0).trans rfl; have hcz11_1 : w8.cell? ⟨gb277, 1, none⟩ = some (.int .i64 a1_1) := (blk_cell BK277.out 1).trans rfl; have hcz11_2 : w8.cell? ⟨gb277, 2, none⟩ = some (.int .i64 a1_2) := (blk_cell BK277.out 2).trans rfl; have hcz11_3 : w8.cell? ⟨gb277, 3, none⟩ = some (.bool a1_3) := (blk_cell BK277.out 3).trans rfl; have hcz11_4 : w8.cell? ⟨gb277, 4, none⟩ = some (.int .i64 a1_4) := (blk_cell BK277.out 4).trans rfl; have hfz11_0 := blk_frozen BK277.out 0; have hfz11_1 := blk_frozen BK277.out 1; have hfz11_2 := blk_frozen BK277.out 2; have hfz11_3 := blk_frozen BK277.out 3; have hfz11_4 := blk_frozen BK277.out 4) | ((with_reducible refine gate_callee (f := 10) rfl ?_); refine goesL_ (some 11) rfl rfl Tryd.func10 (by kernel_rfl) rfl #[.agg #[.slice A0_0 l0_0.length c0_0, .slice A0_1 l0_1.length c0_1, .int .i64 a0_2], .agg #[.slice A1_0 l1_0.length c1_0, .int .i64 a1_1, .int .i64 a1_2, .bool a1_3, .int .i64 a1_4]] rfl zM ?_; (with_reducible refine (cert_Check.calls k _ _ l0_0 _ _ l0_1 a0_2 _ _ l1_0 a1_1 a1_2 a1_3 a1_4 none _ ?side1 ?side2 ?side3 ?side4 ?side5 ?side6 ?side7 A3.out).mono ?_); (case side1 => exact GlobOK.below HG.out (zH2 HB.out GE276.out GE277.out)); (case side2 => exact zC HR0_0.out HB.out); (case side3 => exact HC0_0.out); (case side4 => exact zC HR0_1.out HB.out); (case side5 => exact HC0_1.out); (case side6 => exact zC HR1_0.out HB.out); (case side7 => exact HC1_0.out); rintro e w12 ⟨rfl, hb⟩; refine ⟨_, rfl, ?_⟩; have n0_ := zBB BK276 hb; have n1_ := zBB BK277 hb; have n2_ := Aside0.mk (below_step (zH2 HB.out GE276.out GE277.out) hb); clear BK276; clear BK277; clear HB; have BK276 := n0_; have BK277 := n1_; have HB := n2_; clear n0_ n1_ n2_; (try clear hb); (try clear hb2); (try clear hk); (try clear hi); (try simp only [errW_none, errW_some]); have hcz13_0 : w12.cell? ⟨gb276, 0, none⟩ = some (.slice A0_0 l0_0.length c0_0) := (blk_cell BK276.out 0).trans rfl; have hcz13_1 : w12.cell? ⟨gb276, 1, none⟩ = some (.slice A0_1 l0_1.length c0_1) := (blk_cell BK276.out 1).trans rfl; have hcz13_2 : w12.cell? ⟨gb276, 2, none⟩ = some (.int .i64 a0_2) := (blk_cell BK276.out 2).trans rfl; have hfz13_0 := blk_frozen BK276.out 0; have hfz13_1 := blk_frozen BK276.out 1; have hfz13_2 := blk_frozen BK276.out 2) | ((with_reducible refine gate_callee (f := 23) rfl ?_); refine goesL_ (some 19) rfl rfl Tryd.func23 (by kernel_rfl) rfl #[.agg #[.slice A0_0 l0_0.length c0_0, .slice A0_1 l0_1.length c0_1, .int .i64 a0_2], .int .i64 0, .int .i64 a0_2] rfl zM ?_; (with_reducible refine (bound_Least.calls k _ _ l0_0 _ _ l0_1 a0_2 0 a0_2 t280 true _ ?side1 ?side2 ?side3 ?side4 ?side5 A4.out).mono ?_); (case side1 => exact GlobOK.below HG.out (zH2 HB.out GE276.out GE277.out)); (case side2 => exact zC HR0_0.out HB.out); (case side3 => exact HC0_0.out); (case side4 => exact zC HR0_1.out HB.out); (case side5 => exact HC0_1.out); rintro e w14 ⟨rfl, hb⟩; refine ⟨_, rfl, ?_⟩; have n0_ := zBB BK276 hb; have n1_ := zBB BK277 hb; have n2_ := Aside0.mk (below_step (zH2 HB.out GE276.out GE277.out) hb); clear BK276; clear BK277; clear HB; have BK276 := n0_; have BK277 := n1_; have HB := n2_; clear n0_ n1_ n2_; (try clear hb); (try clear hb2); (try clear hk); (try clear hi); have hcz15_0 : w14.cell? ⟨gb277, 0, none⟩ = some (.slice A1_0 l1_0.length c1_0) := (blk_cell BK277.out 0).trans rfl; have hcz15_1 : w14.cell? ⟨gb277, 1, none⟩ = some (.int .i64 a1_1) := (blk_cell BK277.out 1).trans rfl; have hcz15_2 : w14.cell? ⟨gb277, 2, none⟩ = some (.int .i64 a1_2) := (blk_cell BK277.out 2).trans rfl; have hcz15_3 : w14.cell? ⟨gb277, 3, none⟩ = some (.bool a1_3) := (blk_cell BK277.out 3).trans rfl; have hcz15_4 : w14.cell? ⟨gb277, 4, none⟩ = some (.int .i64 a1_4) := (blk_cell BK277.out 4).trans rfl; have hfz15_0 := blk_frozen BK277.out 0; have hfz15_1 := blk_frozen BK277.out 1; have hfz15_2 := blk_frozen BK277.out 2; have hfz15_3 := blk_frozen BK277.out 3; have hfz15_4 := blk_frozen BK277.out 4))
   go_ret2
   exact ⟨by first | rfl | (simp [errW_none, errW_some] <;> rfl) | (simp only [← hji6]; first | rfl | (simp [errW_none, errW_some] <;> rfl)) | (exfalso; simp_all; done) | (simp [*, errW_none, errW_some] <;> rfl), zH2 HB.out GE276.out GE277.out⟩
  ·
   replace c5 := Bool.eq_false_iff.mpr c5; subst c5; have H1 : (some (0, none)) = some (r1, r2) := by rw [if_neg (show ¬ (false = true) by decide)] at H; exact H
   clear H; have H := H1; clear H1; simp only [Option.some.injEq, Prod.mk.injEq] at H; obtain ⟨rfl, rfl⟩ := H
   go_enter Tryd.func11, Tryd.ntmps11
   go_wp2_with (first | ((with_reducible refine gate_dst (N := 2) rfl ?_); refine box_event ?hg (N := 2) ?hd (cs := #[.slice A0_0 l0_0.length c0_0, .slice A0_1 l0_1.length c0_1, .int .i64 a0_2]) (t := 25) ?hr ?_; (case hd => rfl); (case hg => rfl); (case hr => first | (go_simp; done) | (go_simp; rfl)); intro gb276 hg w16 hbox hb; have n0_ := Aside0.mk (below_step (zH HB.out) hb); have n1_ := Aside0.mk (hbox); have n2_ := Aside0.mk (zg hg (below_size (zH HB.out)) : w.heap.size ≤ gb276); have n3_ := Aside0.mk (zg hg (below_size (zH HB.out)) : w.heap.size ≤ gb276); clear HB; have HB := n0_; have BK276 := n1_; have GW276 := n2_; have GE276 := n3_; clear n0_ n1_ n2_ n3_; clear hb hbox hg) | ((with_reducible refine gate_dst (N := 3) rfl ?_); refine box_event ?hg (N := 3) ?hd (cs := #[.slice A1_0 l1_0.length c1_0, .int .i64 a1_1, .int .i64 a1_2, .bool a1_3, .int .i64 a1_4]) (t := 28) ?hr ?_; (case hd => rfl); (case hg => rfl); (case hr => first | (go_simp; done) | (go_simp; rfl)); intro gb277 hg w17 hbox hb; have n0_ := zBB BK276 hb; have n1_ := Aside0.mk (below_step (zH1 HB.out GE276.out) hb); have n2_ := Aside0.mk (hbox); have n3_ := Aside0.mk (zg hg (below_size (zH1 HB.out GE276.out)) : w.heap.size ≤ gb277); have n4_ := Aside0.mk (zg hg (below_size (zH1 HB.out GE276.out)) : w.heap.size ≤ gb277); have n5_ := Aside0.mk (zN hg BK276 : gb276 ≠ gb277); have n6_ := Aside0.mk (zO hg BK276 : gb277 ≠ gb276); clear BK276; clear HB; have BK276 := n0_; have HB := n1_; have BK277 := n2_; have GW277 := n3_; have GE277 := n4_; have NB276_277 := n5_; have NB277_276 := n6_; clear n0_ n1_ n2_ n3_ n4_ n5_ n6_; clear hb hbox hg; have hnb18 := NB276_277.out; have hnc18 := NB277_276.out; have hcz19_0 : w17.cell? ⟨gb276, 0, none⟩ = some (.slice A0_0 l0_0.length c0_0) := (blk_cell BK276.out 0).trans rfl; have hcz19_1 : w17.cell? ⟨gb276, 1, none⟩ = some (.slice A0_1 l0_1.length c0_1) := (blk_cell BK276.out 1).trans rfl; have hcz19_2 : w17.cell? ⟨gb276, 2, none⟩ = some (.int .i64 a0_2) := (blk_cell BK276.out 2).trans rfl; have hfz19_0 := blk_frozen BK276.out 0; have hfz19_1 := blk_frozen BK276.out 1; have hfz19_2 := blk_frozen BK276.out 2; have hcz20_0 : w17.cell? ⟨gb277, 0, none⟩ = some (.slice A1_0 l1_0.length c1_0) := (blk_cell BK277.out 0).trans rfl; have hcz20_1 : w17.cell? ⟨gb277, 1, none⟩ = some (.int .i64 a1_1) := (blk_cell BK277.out 1).trans rfl; have hcz20_2 : w17.cell? ⟨gb277, 2, none⟩ = some (.int .i64 a1_2) := (blk_cell BK277.out 2).trans rfl; have hcz20_3 : w17.cell? ⟨gb277, 3, none⟩ = some (.bool a1_3) := (blk_cell BK277.out 3).trans rfl; have hcz20_4 : w17.cell? ⟨gb277, 4, none⟩ = some (.int .i64 a1_4) := (blk_cell BK277.out 4).trans rfl; have hfz20_0 := blk_frozen BK277.out 0; have hfz20_1 := blk_frozen BK277.out 1; have hfz20_2 := blk_frozen BK277.out 2; have hfz20_3 := blk_frozen BK277.out 3; have hfz20_4 := blk_frozen BK277.out 4) | ((with_reducible refine gate_callee (f := 10) rfl ?_); refine goesL_ (some 11) rfl rfl Tryd.func10 (by kernel_rfl) rfl #[.agg #[.slice A0_0 l0_0.length c0_0, .slice A0_1 l0_1.length c0_1, .int .i64 a0_2], .agg #[.slice A1_0 l1_0.length c1_0, .int .i64 a1_1, .int .i64 a1_2, .bool a1_3, .int .i64 a1_4]] rfl zM ?_; (with_reducible refine (cert_Check.calls k _ _ l0_0 _ _ l0_1 a0_2 _ _ l1_0 a1_1 a1_2 a1_3 a1_4 none _ ?side1 ?side2 ?side3 ?side4 ?side5 ?side6 ?side7 A3.out).mono ?_); (case side1 => exact GlobOK.below HG.out (zH2 HB.out GE276.out GE277.out)); (case side2 => exact zC HR0_0.out HB.out); (case side3 => exact HC0_0.out); (case side4 => exact zC HR0_1.out HB.out); (case side5 => exact HC0_1.out); (case side6 => exact zC HR1_0.out HB.out); (case side7 => exact HC1_0.out); rintro e w21 ⟨rfl, hb⟩; refine ⟨_, rfl, ?_⟩; have n0_ := zBB BK276 hb; have n1_ := zBB BK277 hb; have n2_ := Aside0.mk (below_step (zH2 HB.out GE276.out GE277.out) hb); clear BK276; clear BK277; clear HB; have BK276 := n0_; have BK277 := n1_; have HB := n2_; clear n0_ n1_ n2_; (try clear hb); (try clear hb2); (try clear hk); (try clear hi); (try simp only [errW_none, errW_some]); have hcz22_0 : w21.cell? ⟨gb276, 0, none⟩ = some (.slice A0_0 l0_0.length c0_0) := (blk_cell BK276.out 0).trans rfl; have hcz22_1 : w21.cell? ⟨gb276, 1, none⟩ = some (.slice A0_1 l0_1.length c0_1) := (blk_cell BK276.out 1).trans rfl; have hcz22_2 : w21.cell? ⟨gb276, 2, none⟩ = some (.int .i64 a0_2) := (blk_cell BK276.out 2).trans rfl; have hfz22_0 := blk_frozen BK276.out 0; have hfz22_1 := blk_frozen BK276.out 1; have hfz22_2 := blk_frozen BK276.out 2) | ((with_reducible refine gate_callee (f := 23) rfl ?_); refine goesL_ (some 19) rfl rfl Tryd.func23 (by kernel_rfl) rfl #[.agg #[.slice A0_0 l0_0.length c0_0, .slice A0_1 l0_1.length c0_1, .int .i64 a0_2], .int .i64 0, .int .i64 a0_2] rfl zM ?_; (with_reducible refine (bound_Least.calls k _ _ l0_0 _ _ l0_1 a0_2 0 a0_2 t280 false _ ?side1 ?side2 ?side3 ?side4 ?side5 A4.out).mono ?_); (case side1 => exact GlobOK.below HG.out (zH2 HB.out GE276.out GE277.out)); (case side2 => exact zC HR0_0.out HB.out); (case side3 => exact HC0_0.out); (case side4 => exact zC HR0_1.out HB.out); (case side5 => exact HC0_1.out); rintro e w23 ⟨rfl, hb⟩; refine ⟨_, rfl, ?_⟩; have n0_ := zBB BK276 hb; have n1_ := zBB BK277 hb; have n2_ := Aside0.mk (below_step (zH2 HB.out GE276.out GE277.out) hb); clear BK276; clear BK277; clear HB; have BK276 := n0_; have BK277 := n1_; have HB := n2_; clear n0_ n1_ n2_; (try clear hb); (try clear hb2); (try clear hk); (try clear hi)))
   go_ret2
   exact ⟨zE, zH2 HB.out GE276.out GE277.out⟩
 ·
  have H1 : (some (0, some q279)) = some (r1, r2) := by rw [if_neg (show ¬ (some q279).isNone = true by simp)] at H; exact H
  clear H; have H := H1; clear H1
  try simp only [errW_none, errW_some]
  simp only [Option.some.injEq, Prod.mk.injEq] at H; obtain ⟨rfl, rfl⟩ := H
  go_enter Tryd.func11, Tryd.ntmps11
  go_wp2_with (first | ((with_reducible refine gate_dst (N := 2) rfl ?_); refine box_event ?hg (N := 2) ?hd (cs := #[.slice A0_0 l0_0.length c0_0, .slice A0_1 l0_1.length c0_1, .int .i64 a0_2]) (t := 25) ?hr ?_; (case hd => rfl); (case hg => rfl); (case hr => first | (go_simp; done) | (go_simp; rfl)); intro gb276 hg w24 hbox hb; have n0_ := Aside0.mk (below_step (zH HB.out) hb); have n1_ := Aside0.mk (hbox); have n2_ := Aside0.mk (zg hg (below_size (zH HB.out)) : w.heap.size ≤ gb276); have n3_ := Aside0.mk (zg hg (below_size (zH HB.out)) : w.heap.size ≤ gb276); clear HB; have HB := n0_; have BK276 := n1_; have GW276 := n2_; have GE276 := n3_; clear n0_ n1_ n2_ n3_; clear hb hbox hg) | ((with_reducible refine gate_dst (N := 3) rfl ?_); refine box_event ?hg (N := 3) ?hd (cs := #[.slice A1_0 l1_0.length c1_0, .int .i64 a1_1, .int .i64 a1_2, .bool a1_3, .int .i64 a1_4]) (t := 28) ?hr ?_; (case hd => rfl); (case hg => rfl); (case hr => first | (go_simp; done) | (go_simp; rfl)); intro gb277 hg w25 hbox hb; have n0_ := zBB BK276 hb; have n1_ := Aside0.mk (below_step (zH1 HB.out GE276.out) hb); have n2_ := Aside0.mk (hbox); have n3_ := Aside0.mk (zg hg (below_size (zH1 HB.out GE276.out)) : w.heap.size ≤ gb277); have n4_ := Aside0.mk (zg hg (below_size (zH1 HB.out GE276.out)) : w.heap.size ≤ gb277); have n5_ := Aside0.mk (zN hg BK276 : gb276 ≠ gb277); have n6_ := Aside0.mk (zO hg BK276 : gb277 ≠ gb276); clear BK276; clear HB; have BK276 := n0_; have HB := n1_; have BK277 := n2_; have GW277 := n3_; have GE277 := n4_; have NB276_277 := n5_; have NB277_276 := n6_; clear n0_ n1_ n2_ n3_ n4_ n5_ n6_; clear hb hbox hg; have hnb26 := NB276_277.out; have hnc26 := NB277_276.out; have hcz27_0 : w25.cell? ⟨gb276, 0, none⟩ = some (.slice A0_0 l0_0.length c0_0) := (blk_cell BK276.out 0).trans rfl; have hcz27_1 : w25.cell? ⟨gb276, 1, none⟩ = some (.slice A0_1 l0_1.length c0_1) := (blk_cell BK276.out 1).trans rfl; have hcz27_2 : w25.cell? ⟨gb276, 2, none⟩ = some (.int .i64 a0_2) := (blk_cell BK276.out 2).trans rfl; have hfz27_0 := blk_frozen BK276.out 0; have hfz27_1 := blk_frozen BK276.out 1; have hfz27_2 := blk_frozen BK276.out 2; have hcz28_0 : w25.cell? ⟨gb277, 0, none⟩ = some (.slice A1_0 l1_0.length c1_0) := (blk_cell BK277.out 0).trans rfl; have hcz28_1 : w25.cell? ⟨gb277, 1, none⟩ = some (.int .i64 a1_1) := (blk_cell BK277.out 1).trans rfl; have hcz28_2 : w25.cell? ⟨gb277, 2, none⟩ = some (.int .i64 a1_2) := (blk_cell BK277.out 2).trans rfl; have hcz28_3 : w25.cell? ⟨gb277, 3, none⟩ = some (.bool a1_3) := (blk_cell BK277.out 3).trans rfl; have hcz28_4 : w25.cell? ⟨gb277, 4, none⟩ = some (.int .i64 a1_4) := (blk_cell BK277.out 4).trans rfl; have hfz28_0 := blk_frozen BK277.out 0; have hfz28_1 := blk_frozen BK277.out 1; have hfz28_2 := blk_frozen BK277.out 2; have hfz28_3 := blk_frozen BK277.out 3; have hfz28_4 := blk_frozen BK277.out 4) | ((with_reducible refine gate_callee (f := 10) rfl ?_); refine goesL_ (some 11) rfl rfl Tryd.func10 (by kernel_rfl) rfl #[.agg #[.slice A0_0 l0_0.length c0_0, .slice A0_1 l0_1.length c0_1, .int .i64 a0_2], .agg #[.slice A1_0 l1_0.length c1_0, .int .i64 a1_1, .int .i64 a1_2, .bool a1_3, .int .i64 a1_4]] rfl zM ?_; (with_reducible refine (cert_Check.calls k _ _ l0_0 _ _ l0_1 a0_2 _ _ l1_0 a1_1 a1_2 a1_3 a1_4 (some q279) _ ?side1 ?side2 ?side3 ?side4 ?side5 ?side6 ?side7 A3.out).mono ?_); (case side1 => exact GlobOK.below HG.out (zH2 HB.out GE276.out GE277.out)); (case side2 => exact zC HR0_0.out HB.out); (case side3 => exact HC0_0.out); (case side4 => exact zC HR0_1.out HB.out); (case side5 => exact HC0_1.out); (case side6 => exact zC HR1_0.out HB.out); (case side7 => exact HC1_0.out); rintro e w29 ⟨rfl, hb⟩; refine ⟨_, rfl, ?_⟩; have n0_ := zBB BK276 hb; have n1_ := zBB BK277 hb; have n2_ := Aside0.mk (below_step (zH2 HB.out GE276.out GE277.out) hb); clear BK276; clear BK277; clear HB; have BK276 := n0_; have BK277 := n1_; have HB := n2_; clear n0_ n1_ n2_; (try clear hb); (try clear hb2); (try clear hk); (try clear hi); (try simp only [errW_none, errW_some])))
  go_ret2
  exact ⟨zE, zH2 HB.out GE276.out GE277.out⟩

/-! ### pledgeref1_Wide: function 42 -/
def pledgeref1_Wide.f (a0 : Int) (a1 : Int) : Option (Int × Int) := some (IntKind.u64.wrap ((IntKind.u64.wrap ((IntKind.u64.wrap ((a0 / 4294967296) * (a1 / 4294967296))) + ((IntKind.u64.wrap ((IntKind.u64.wrap ((a0 / 4294967296) * (Go.bits .and .u64 a1 4294967295))) + ((IntKind.u64.wrap ((Go.bits .and .u64 a0 4294967295) * (Go.bits .and .u64 a1 4294967295))) / 4294967296))) / 4294967296))) + ((IntKind.u64.wrap ((IntKind.u64.wrap ((Go.bits .and .u64 a0 4294967295) * (a1 / 4294967296))) + (Go.bits .and .u64 (IntKind.u64.wrap ((IntKind.u64.wrap ((a0 / 4294967296) * (Go.bits .and .u64 a1 4294967295))) + ((IntKind.u64.wrap ((Go.bits .and .u64 a0 4294967295) * (Go.bits .and .u64 a1 4294967295))) / 4294967296))) 4294967295))) / 4294967296)), Go.bits .or .u64 (IntKind.u64.wrap ((IntKind.u64.wrap ((IntKind.u64.wrap ((Go.bits .and .u64 a0 4294967295) * (a1 / 4294967296))) + (Go.bits .and .u64 (IntKind.u64.wrap ((IntKind.u64.wrap ((a0 / 4294967296) * (Go.bits .and .u64 a1 4294967295))) + ((IntKind.u64.wrap ((Go.bits .and .u64 a0 4294967295) * (Go.bits .and .u64 a1 4294967295))) / 4294967296))) 4294967295))) * 4294967296)) (Go.bits .and .u64 (IntKind.u64.wrap ((Go.bits .and .u64 a0 4294967295) * (Go.bits .and .u64 a1 4294967295))) 4294967295))
set_option maxHeartbeats 8000000 in
set_option maxRecDepth 100000 in
theorem pledgeref1_Wide.calls [Inhabited (Int → Addr)] (a0 : Int) (a1 : Int) (r1 : Int) (r2 : Int) (w : World) (h : pledgeref1_Wide.f a0 a1 = some (r1, r2)) :
    Calls Tryd.prog 42 #[.int .u64 a0, .int .u64 a1] w fun e w' => e = .returned (.tuple #[.int .u64 r1, .int .u64 r2]) ∧ Drawn0 w w' := by
  have H : (some (IntKind.u64.wrap ((IntKind.u64.wrap ((IntKind.u64.wrap ((a0 / 4294967296) * (a1 / 4294967296))) + ((IntKind.u64.wrap ((IntKind.u64.wrap ((a0 / 4294967296) * (Go.bits .and .u64 a1 4294967295))) + ((IntKind.u64.wrap ((Go.bits .and .u64 a0 4294967295) * (Go.bits .and .u64 a1 4294967295))) / 4294967296))) / 4294967296))) + ((IntKind.u64.wrap ((IntKind.u64.wrap ((Go.bits .and .u64 a0 4294967295) * (a1 / 4294967296))) + (Go.bits .and .u64 (IntKind.u64.wrap ((IntKind.u64.wrap ((a0 / 4294967296) * (Go.bits .and .u64 a1 4294967295))) + ((IntKind.u64.wrap ((Go.bits .and .u64 a0 4294967295) * (Go.bits .and .u64 a1 4294967295))) / 4294967296))) 4294967295))) / 4294967296)), Go.bits .or .u64 (IntKind.u64.wrap ((IntKind.u64.wrap ((IntKind.u64.wrap ((Go.bits .and .u64 a0 4294967295) * (a1 / 4294967296))) + (Go.bits .and .u64 (IntKind.u64.wrap ((IntKind.u64.wrap ((a0 / 4294967296) * (Go.bits .and .u64 a1 4294967295))) + ((IntKind.u64.wrap ((Go.bits .and .u64 a0 4294967295) * (Go.bits .and .u64 a1 4294967295))) / 4294967296))) 4294967295))) * 4294967296)) (Go.bits .and .u64 (IntKind.u64.wrap ((Go.bits .and .u64 a0 4294967295) * (Go.bits .and .u64 a1 4294967295))) 4294967295))) = some (r1, r2) := h; clear h; simp only [Option.some.injEq, Prod.mk.injEq] at H; obtain ⟨rfl, rfl⟩ := H
  go_enter Tryd.func42, Tryd.ntmps42
  go_wp2
  go_ret2
  exact ⟨zF, zD⟩

/-! ### pledgeref1_size: function 43 -/
def pledgeref1_size.f (a0 : Int) : Option (Int) := if a0 < 0 then (some (IntKind.u64.wrap ((IntKind.u64.wrap (wrap64 (-(wrap64 (a0 + 1))))) + 1))) else (some (IntKind.u64.wrap (a0)))
set_option maxHeartbeats 8000000 in
set_option maxRecDepth 100000 in
theorem pledgeref1_size.calls [Inhabited (Int → Addr)] (a0 : Int) (r : Int) (w : World) (h : pledgeref1_size.f a0 = some r) :
    Calls Tryd.prog 43 #[.int .i64 a0] w fun e w' => e = .returned (.int .u64 r) ∧ Drawn0 w w' := by
  have H : (if a0 < 0 then (some (IntKind.u64.wrap ((IntKind.u64.wrap (wrap64 (-(wrap64 (a0 + 1))))) + 1))) else (some (IntKind.u64.wrap (a0)))) = some r := h; clear h; by_cases c2 : a0 < 0
  · rw [if_pos c2] at H
    have c2b0 : decide (a0 < 0) = true := decide_eq_true c2; clear c2; obtain rfl := Option.some.inj H
    go_enter Tryd.func43, Tryd.ntmps43
    go_wp2
    go_ret
    exact ⟨zF, zD⟩
  · rw [if_neg c2] at H
    have c2b0 : decide (a0 < 0) = false := decide_eq_false c2; clear c2; obtain rfl := Option.some.inj H
    go_enter Tryd.func43, Tryd.ntmps43
    go_wp2
    go_ret
    exact ⟨zF, zD⟩

end Go.Proofs.YteooecifecaikaaDoor.ECertSays
