/- The functions that the law comes to, as plain functions, and for each a proof that the Go code comes to just these answers. Written by a program of this claim. Conditions: each theorem bears its own. -/
import Derived.Test.YtcmdhgcaldpioaaDoorEFundSizesx0
import Derived.Test.YtcmdhgcaldpioaaDoorEFundSizesx1
import Derived.Test.YtcmdhgcaldpioaaDoorEFundSizesx5
namespace Go.Proofs.YtcmdhgcaldpioaaDoor.EFundSizes
open Go.RowKit Go.Proofs.YtcmdhgcaldpioaaDoorW.PrintWords Go.Proofs.YtcmdhgcaldpioaaDoorW.PrintLast Go.Proofs.YtcmdhgcaldpioaaDoorW.PrintMore Go.Proofs.YtcmdhgcaldpioaaDoorW.PrintOpen
attribute [local go_sem] max2_int min2_int max_two min_two max_three min_three max_four min_four   -- for this text's walks alone
set_option linter.unusedVariables false
set_option linter.unusedSimpArgs false

/-! ### stress_scene: function 28 -/
def stress_scene.f (a0 : Int) : Option (Bool) := if a0 ≥ 1 then (some (decide (a0 ≤ 16))) else (some false)
set_option maxHeartbeats 8000000 in
set_option maxRecDepth 100000 in
theorem stress_scene.calls [Inhabited (Int → Addr)] (a0 : Int) (r : Bool) (w : World) (h : stress_scene.f a0 = some r) :
    Calls Tryd.prog 28 #[.int .i64 a0] w fun e w' => e = .returned (.bool r) ∧ Drawn0 w w' := by
  have H : (if a0 ≥ 1 then (some (decide (a0 ≤ 16))) else (some false)) = some r := h
  clear h
  by_cases c2 : a0 ≥ 1
  · rw [if_pos c2] at H
    have c2b0 : decide (1 ≤ a0) = true := decide_eq_true c2
    clear c2
    obtain rfl := Option.some.inj H
    go_enter Tryd.func28, Tryd.ntmps28
    go_wp2
    go_ret
    exact ⟨by first | rfl | (simp; done) | (simp [*]; done) | (simp [wrap64]; done) | (simp <;> rfl), by repeat (first | exact Drawn0.refl _ | apply Drawn0.step)⟩
  · rw [if_neg c2] at H
    have c2b0 : decide (1 ≤ a0) = false := decide_eq_false c2
    clear c2
    obtain rfl := Option.some.inj H
    go_enter Tryd.func28, Tryd.ntmps28
    go_wp2
    go_ret
    exact ⟨by first | rfl | (simp; done) | (simp [*]; done) | (simp [wrap64]; done) | (simp <;> rfl), by repeat (first | exact Drawn0.refl _ | apply Drawn0.step)⟩

/-! ### stress_amount: function 29 -/
def stress_amount.f (a0 : Int) : Option (Bool) := if a0 ≥ 0 then (some (decide (a0 ≤ 1000000000000000))) else (some false)
set_option maxHeartbeats 8000000 in
set_option maxRecDepth 100000 in
theorem stress_amount.calls [Inhabited (Int → Addr)] (a0 : Int) (r : Bool) (w : World) (h : stress_amount.f a0 = some r) :
    Calls Tryd.prog 29 #[.int .i64 a0] w fun e w' => e = .returned (.bool r) ∧ Drawn0 w w' := by
  have H : (if a0 ≥ 0 then (some (decide (a0 ≤ 1000000000000000))) else (some false)) = some r := h
  clear h
  by_cases c2 : a0 ≥ 0
  · rw [if_pos c2] at H
    have c2b0 : decide (0 ≤ a0) = true := decide_eq_true c2
    clear c2
    obtain rfl := Option.some.inj H
    go_enter Tryd.func29, Tryd.ntmps29
    go_wp2
    go_ret
    exact ⟨by first | rfl | (simp; done) | (simp [*]; done) | (simp [wrap64]; done) | (simp <;> rfl), by repeat (first | exact Drawn0.refl _ | apply Drawn0.step)⟩
  · rw [if_neg c2] at H
    have c2b0 : decide (0 ≤ a0) = false := decide_eq_false c2
    clear c2
    obtain rfl := Option.some.inj H
    go_enter Tryd.func29, Tryd.ntmps29
    go_wp2
    go_ret
    exact ⟨by first | rfl | (simp; done) | (simp [*]; done) | (simp [wrap64]; done) | (simp <;> rfl), by repeat (first | exact Drawn0.refl _ | apply Drawn0.step)⟩

/-! ### fix_Add: function 66 -/
def fix_Add.f (a0 : Int) (a1 : Int) : Option (Int × Bool) := if ((decide ((wrap64 (a0 + a1)) > a0)) != (decide (a1 > 0))) = true then (if a1 = 0 then (some (wrap64 (a0 + a1), true)) else (some (0, false))) else (some (wrap64 (a0 + a1), true))
set_option maxHeartbeats 8000000 in
set_option maxRecDepth 100000 in
theorem fix_Add.calls [Inhabited (Int → Addr)] (a0 : Int) (a1 : Int) (r1 : Int) (r2 : Bool) (w : World) (h : fix_Add.f a0 a1 = some (r1, r2)) :
    Calls Tryd.prog 66 #[.int .i64 a0, .int .i64 a1] w fun e w' => e = .returned (.tuple #[.int .i64 r1, .bool r2]) ∧ Drawn0 w w' := by
  have H : (if ((decide ((wrap64 (a0 + a1)) > a0)) != (decide (a1 > 0))) = true then (if a1 = 0 then (some (wrap64 (a0 + a1), true)) else (some (0, false))) else (some (wrap64 (a0 + a1), true))) = some (r1, r2) := h
  clear h
  by_cases c3 : ((decide ((wrap64 (a0 + a1)) > a0)) != (decide (a1 > 0))) = true
  · rw [if_pos c3] at H
    have c3b0 : ((decide ((wrap64 (a0 + a1)) > a0)) != (decide (a1 > 0))) = true := c3
    (try (have c3b1 : decide ((decide ((wrap64 (a0 + a1)) > a0)) = (decide (a1 > 0))) = false := by simpa using c3))
    (try (have c3b2 : ((decide ((wrap64 (a0 + a1)) > a0)) == (decide (a1 > 0))) = false := by simpa using c3))
    (try (have c3b3 : ¬ ((decide ((wrap64 (a0 + a1)) > a0)) = (decide (a1 > 0))) := by simpa using c3))
    clear c3
    by_cases c4 : a1 = 0
    · rw [if_pos c4] at H
      have c4b0 : (a1 == 0) = true := beq_iff_eq.mpr c4
      have c4b1 : (a1 != 0) = false := bne_eq_false_iff_eq.mpr c4
      clear c4
      simp only [Option.some.injEq, Prod.mk.injEq] at H
      obtain ⟨rfl, rfl⟩ := H
      go_enter Tryd.func66, Tryd.ntmps66
      go_wp2
      go_ret2
      exact ⟨by first | rfl | (simp; done) | (simp [*]; done) | (simp [wrap64]; done) | (simp <;> rfl), by repeat (first | exact Drawn0.refl _ | apply Drawn0.step)⟩
    · rw [if_neg c4] at H
      have c4b0 : (a1 == 0) = false := beq_eq_false_iff_ne.mpr c4
      have c4b1 : (a1 != 0) = true := bne_iff_ne.mpr c4
      simp only [Option.some.injEq, Prod.mk.injEq] at H
      obtain ⟨rfl, rfl⟩ := H
      go_enter Tryd.func66, Tryd.ntmps66
      go_wp2
      go_ret2
      exact ⟨by first | rfl | (simp; done) | (simp [*]; done) | (simp [wrap64]; done) | (simp <;> rfl), by repeat (first | exact Drawn0.refl _ | apply Drawn0.step)⟩
  · rw [if_neg c3] at H
    have c3b0 : ((decide ((wrap64 (a0 + a1)) > a0)) != (decide (a1 > 0))) = false := by simpa using c3
    (try (have c3b1 : decide ((decide ((wrap64 (a0 + a1)) > a0)) = (decide (a1 > 0))) = true := by simpa using c3))
    (try (have c3b2 : ((decide ((wrap64 (a0 + a1)) > a0)) == (decide (a1 > 0))) = true := by simpa using c3))
    clear c3
    simp only [Option.some.injEq, Prod.mk.injEq] at H
    obtain ⟨rfl, rfl⟩ := H
    go_enter Tryd.func66, Tryd.ntmps66
    go_wp2
    go_ret2
    exact ⟨by first | rfl | (simp; done) | (simp [*]; done) | (simp [wrap64]; done) | (simp <;> rfl), by repeat (first | exact Drawn0.refl _ | apply Drawn0.step)⟩

/-! ### stress_Top: function 51 -/
def stress_Top.l0 : Nat → Int → Int → List Int → Int → Int → Option (Int × Option Int)
  | 0, _, _, _, _, _ => none
  | k + 1, x4, x5, x10, x11, x12 => if x12 < x11 then (if 0 ≤ x12 then (if x12 < (x10.length : Int) then ((stress_amount.f (rd x10 x12)).bind fun t162 => (if t162 = true then (if (rd x10 x12) > x4 then (stress_Top.l0 k (rd x10 x12) x4 x10 x11 (wrap64 (x12 + 1))) else (if (rd x10 x12) > x5 then (stress_Top.l0 k x4 (rd x10 x12) x10 x11 (wrap64 (x12 + 1))) else (stress_Top.l0 k x4 x5 x10 x11 (wrap64 (x12 + 1))))) else (some (0, some 103)))) else (none)) else (none)) else ((fix_Add.f x4 x5).bind fun bt159 => (if bt159.2 = true then (if bt159.1 > 1000000000000000 then (some (0, some 104)) else (some (bt159.1, none))) else (some (0, some 104))))
def stress_Top.f (k : Nat) (l0 : List Int) : Option (Int × Option Int) := stress_Top.l0 k 0 0 l0 (l0.length : Int) 0
theorem stress_Top.mono_l : ∀ k, (∀ y0 y1 y2 y3 y4, LeO (stress_Top.l0 k y0 y1 y2 y3 y4) (stress_Top.l0 (k + 1) y0 y1 y2 y3 y4))
  | 0 => fun _ _ _ _ _ r h => by simp [stress_Top.l0] at h
  | k + 1 => by
    have ih0 := stress_Top.mono_l k
    · intro y0 y1 y2 y3 y4
      unfold stress_Top.l0
      repeat' first
      | (with_reducible exact ih0 _ _ _ _ _)
      | (with_reducible exact LeO.refl _)
      | (with_reducible exact LeO.none _)
      | (with_reducible refine LeO.ite ?_ ?_)
      | (with_reducible refine LeO.bind ?_ (fun _ => ?_))
      | exact ih0 _ _ _ _ _
      | exact LeO.none _
      | refine LeO.ite ?_ ?_
      | refine LeO.bind ?_ (fun _ => ?_)
theorem stress_Top.mono : ∀ a0 k, LeO (stress_Top.f k a0) (stress_Top.f (k + 1) a0) := by
  intro a0 k
  have ih0 := stress_Top.mono_l k
  unfold stress_Top.f
  repeat' first
      | (with_reducible exact ih0 _ _ _ _ _)
      | (with_reducible exact LeO.refl _)
      | (with_reducible exact LeO.none _)
      | (with_reducible refine LeO.ite ?_ ?_)
      | (with_reducible refine LeO.bind ?_ (fun _ => ?_))
      | exact ih0 _ _ _ _ _
      | exact LeO.none _
      | refine LeO.ite ?_ ?_
      | refine LeO.bind ?_ (fun _ => ?_)
set_option maxHeartbeats 8000000 in
set_option maxRecDepth 100000 in
theorem stress_Top.calls [Inhabited (Int → Addr)] (k : Nat) (A0 : Option Addr) (c0 : Nat) (l0 : List Int) (r1 : Int) (r2 : Option Int) (w : World) (hG : GlobOK w) (hr0 : Kd.C (Kd.int .i64) w A0 l0.length l0) (hc0 : l0.length ≤ c0) (h : stress_Top.f k l0 = some (r1, r2)) :
    Calls Tryd.prog 51 #[.slice A0 l0.length c0] w fun e w' => e = .returned (.tuple #[.int .i64 r1, errW r2]) ∧ Below w.heap.size w w' := by
  have HG := Aside0.mk hG
  clear hG
  have HR0 := Aside0.mk hr0
  have HC0 := Aside0.mk hc0
  clear hr0 hc0
  have HB := Aside0.mk (Below.refl w.heap.size w)
  have H : (stress_Top.l0 k 0 0 l0 (l0.length : Int) 0) = some (r1, r2) := h
  clear h
  have H' := Aside0.mk H
  clear H
  go_enter Tryd.func51, Tryd.ntmps51
  go_wp2
  repeat (go_quiet (fail); try go_wp2)
  go_loopg [4, 5, 12] k (fun kq v4 v5 v12 w' => ∃ (x4_1 : Int) (x5_1 : Int) (x12_1 : Int), v4 = .int .i64 x4_1 ∧ v5 = .int .i64 x5_1 ∧ v12 = .int .i64 x12_1 ∧ Aside0 (stress_Top.l0 kq x4_1 x5_1 l0 (l0.length : Int) x12_1 = some (r1, r2)) ∧ Aside0 (kq ≤ k) ∧ Aside0 (Below w.heap.size w w'))
  case atStart => exact ⟨(0), (0), (0), (by first | rfl | (simp; done) | (simp [*]; done) | (simp [wrap64]; done) | (simp [wrap64]; omega)), (by first | rfl | (simp; done) | (simp [*]; done) | (simp [wrap64]; done) | (simp [wrap64]; omega)), (by first | rfl | (simp; done) | (simp [*]; done) | (simp [wrap64]; done) | (simp [wrap64]; omega)), H', ⟨Nat.le_refl _⟩, ⟨by repeat (first | (with_reducible first | exact HB.out | apply below_alloc | apply pw_below_drewN | apply below_drew1) | exact HB.out)⟩⟩
  case round =>
    clear H'
    obtain ⟨x4_1, x5_1, x12_1, rfl, rfl, rfl, HA, HK1, HB⟩ := hrel
    cases gk with
    | zero => exact absurd HA.out (by simp [stress_Top.l0])
    | succ k1 =>
      have H := HA.out
      clear HA
      simp only [stress_Top.l0] at H
      by_cases c2 : x12_1 < (l0.length : Int)
      · rw [if_pos c2] at H
        have c2b0 : decide (x12_1 < (l0.length : Int)) = true := decide_eq_true c2
        clear c2
        by_cases c3 : 0 ≤ x12_1
        · rw [if_pos c3] at H
          have c3b0 : decide (0 ≤ x12_1) = true := decide_eq_true c3
          clear c3
          by_cases c4 : x12_1 < (l0.length : Int)
          · rw [if_pos c4] at H
            have c4b0 : decide (x12_1 < (l0.length : Int)) = true := decide_eq_true c4
            clear c4
            replace H := Option.bind_eq_some_iff.mp H
            obtain ⟨t162, A50, H⟩ := H
            replace H : (if t162 = true then (if (rd l0 x12_1) > x4_1 then (stress_Top.l0 k1 (rd l0 x12_1) x4_1 l0 (l0.length : Int) (wrap64 (x12_1 + 1))) else (if (rd l0 x12_1) > x5_1 then (stress_Top.l0 k1 x4_1 (rd l0 x12_1) l0 (l0.length : Int) (wrap64 (x12_1 + 1))) else (stress_Top.l0 k1 x4_1 x5_1 l0 (l0.length : Int) (wrap64 (x12_1 + 1))))) else (some (0, some 103))) = some (r1, r2) := H
            have A5 := Aside0.mk A50
            clear A50
            by_cases c6 : t162 = true
            · subst c6
              have H1 : (if (rd l0 x12_1) > x4_1 then (stress_Top.l0 k1 (rd l0 x12_1) x4_1 l0 (l0.length : Int) (wrap64 (x12_1 + 1))) else (if (rd l0 x12_1) > x5_1 then (stress_Top.l0 k1 x4_1 (rd l0 x12_1) l0 (l0.length : Int) (wrap64 (x12_1 + 1))) else (stress_Top.l0 k1 x4_1 x5_1 l0 (l0.length : Int) (wrap64 (x12_1 + 1))))) = some (r1, r2) := by rw [if_pos rfl] at H; exact H
              clear H
              have H := H1
              clear H1
              by_cases c7 : (rd l0 x12_1) > x4_1
              · rw [if_pos c7] at H
                have c7b0 : decide (x4_1 < (rd l0 x12_1)) = true := decide_eq_true c7
                clear c7
                have H' := Aside0.mk H
                clear H
                have p161 : 0 ≤ (x12_1 : Int) := of_decide_eq_true (by first | (with_reducible assumption) | assumption)
                have q161 : x12_1 < (l0.length : Int) := of_decide_eq_true (by first | (with_reducible assumption) | assumption)
                obtain ⟨ad161, e161, hx161_0⟩ := Kd.at_int HR0.out x12_1 p161 q161
                cases e161
                replace hx161_0 := (HB.out.cell (World.block_lt_of_cell? w _ hx161_0)).trans hx161_0
                replace p161 := eq_true p161
                replace q161 := eq_true q161
                go_wp2_with (first | (go_at_call 29; (with_reducible refine (stress_amount.calls (rd l0 x12_1) true _ A5.out).mono ?_); rintro e w' ⟨rfl, ⟨nd, rfl⟩⟩; (try first | exact ⟨rfl, _, World.drewN_drewN _ _ _⟩ | exact ⟨rfl, _, Eq.trans (World.drewN_drewN _ _ _) (congrArg (World.drewN _) (Nat.add_assoc _ _ _))⟩)))
                repeat (go_quiet (first | (go_at_call 29; (try simp only [i64_w, i32_w]); (with_reducible refine (stress_amount.calls (rd l0 x12_1) true _ A5.out).mono ?_); rintro e w' ⟨rfl, ⟨nd, rfl⟩⟩; (try first | exact ⟨rfl, _, World.drewN_drewN _ _ _⟩ | exact ⟨rfl, _, Eq.trans (World.drewN_drewN _ _ _) (congrArg (World.drewN _) (Nat.add_assoc _ _ _))⟩))); try go_wp2_with (first | (go_at_call 29; (try simp only [i64_w, i32_w]); (with_reducible refine (stress_amount.calls (rd l0 x12_1) true _ A5.out).mono ?_); rintro e w' ⟨rfl, ⟨nd, rfl⟩⟩; (try first | exact ⟨rfl, _, World.drewN_drewN _ _ _⟩ | exact ⟨rfl, _, Eq.trans (World.drewN_drewN _ _ _) (congrArg (World.drewN _) (Nat.add_assoc _ _ _))⟩))))
                go_roundg k1
                case measure => have := HK1.out; omega
                case rel => exact ⟨(rd l0 x12_1), (x4_1), (wrap64 (x12_1 + 1)), (by first | rfl | (simp; done) | (simp [*]; done) | (simp [wrap64]; done) | (simp [wrap64]; omega)), (by first | rfl | (simp; done) | (simp [*]; done) | (simp [wrap64]; done) | (simp [wrap64]; omega)), (by first | rfl | (simp; done) | (simp [*]; done) | (simp [wrap64]; done) | (simp [wrap64]; omega)), H', ⟨by have := HK1.out; omega⟩, ⟨by repeat (first | (with_reducible first | exact HB.out | apply below_alloc | apply pw_below_drewN | apply below_drew1) | exact HB.out)⟩⟩
              · rw [if_neg c7] at H
                have c7b0 : decide (x4_1 < (rd l0 x12_1)) = false := decide_eq_false c7
                clear c7
                by_cases c8 : (rd l0 x12_1) > x5_1
                · rw [if_pos c8] at H
                  have c8b0 : decide (x5_1 < (rd l0 x12_1)) = true := decide_eq_true c8
                  clear c8
                  have H' := Aside0.mk H
                  clear H
                  have p161 : 0 ≤ (x12_1 : Int) := of_decide_eq_true (by first | (with_reducible assumption) | assumption)
                  have q161 : x12_1 < (l0.length : Int) := of_decide_eq_true (by first | (with_reducible assumption) | assumption)
                  obtain ⟨ad161, e161, hx161_0⟩ := Kd.at_int HR0.out x12_1 p161 q161
                  cases e161
                  replace hx161_0 := (HB.out.cell (World.block_lt_of_cell? w _ hx161_0)).trans hx161_0
                  replace p161 := eq_true p161
                  replace q161 := eq_true q161
                  go_wp2_with (first | (go_at_call 29; (with_reducible refine (stress_amount.calls (rd l0 x12_1) true _ A5.out).mono ?_); rintro e w' ⟨rfl, ⟨nd, rfl⟩⟩; (try first | exact ⟨rfl, _, World.drewN_drewN _ _ _⟩ | exact ⟨rfl, _, Eq.trans (World.drewN_drewN _ _ _) (congrArg (World.drewN _) (Nat.add_assoc _ _ _))⟩)))
                  repeat (go_quiet (first | (go_at_call 29; (try simp only [i64_w, i32_w]); (with_reducible refine (stress_amount.calls (rd l0 x12_1) true _ A5.out).mono ?_); rintro e w' ⟨rfl, ⟨nd, rfl⟩⟩; (try first | exact ⟨rfl, _, World.drewN_drewN _ _ _⟩ | exact ⟨rfl, _, Eq.trans (World.drewN_drewN _ _ _) (congrArg (World.drewN _) (Nat.add_assoc _ _ _))⟩))); try go_wp2_with (first | (go_at_call 29; (try simp only [i64_w, i32_w]); (with_reducible refine (stress_amount.calls (rd l0 x12_1) true _ A5.out).mono ?_); rintro e w' ⟨rfl, ⟨nd, rfl⟩⟩; (try first | exact ⟨rfl, _, World.drewN_drewN _ _ _⟩ | exact ⟨rfl, _, Eq.trans (World.drewN_drewN _ _ _) (congrArg (World.drewN _) (Nat.add_assoc _ _ _))⟩))))
                  go_roundg k1
                  case measure => have := HK1.out; omega
                  case rel => exact ⟨(x4_1), (rd l0 x12_1), (wrap64 (x12_1 + 1)), (by first | rfl | (simp; done) | (simp [*]; done) | (simp [wrap64]; done) | (simp [wrap64]; omega)), (by first | rfl | (simp; done) | (simp [*]; done) | (simp [wrap64]; done) | (simp [wrap64]; omega)), (by first | rfl | (simp; done) | (simp [*]; done) | (simp [wrap64]; done) | (simp [wrap64]; omega)), H', ⟨by have := HK1.out; omega⟩, ⟨by repeat (first | (with_reducible first | exact HB.out | apply below_alloc | apply pw_below_drewN | apply below_drew1) | exact HB.out)⟩⟩
                · rw [if_neg c8] at H
                  have c8b0 : decide (x5_1 < (rd l0 x12_1)) = false := decide_eq_false c8
                  clear c8
                  have H' := Aside0.mk H
                  clear H
                  have p161 : 0 ≤ (x12_1 : Int) := of_decide_eq_true (by first | (with_reducible assumption) | assumption)
                  have q161 : x12_1 < (l0.length : Int) := of_decide_eq_true (by first | (with_reducible assumption) | assumption)
                  obtain ⟨ad161, e161, hx161_0⟩ := Kd.at_int HR0.out x12_1 p161 q161
                  cases e161
                  replace hx161_0 := (HB.out.cell (World.block_lt_of_cell? w _ hx161_0)).trans hx161_0
                  replace p161 := eq_true p161
                  replace q161 := eq_true q161
                  go_wp2_with (first | (go_at_call 29; (with_reducible refine (stress_amount.calls (rd l0 x12_1) true _ A5.out).mono ?_); rintro e w' ⟨rfl, ⟨nd, rfl⟩⟩; (try first | exact ⟨rfl, _, World.drewN_drewN _ _ _⟩ | exact ⟨rfl, _, Eq.trans (World.drewN_drewN _ _ _) (congrArg (World.drewN _) (Nat.add_assoc _ _ _))⟩)))
                  repeat (go_quiet (first | (go_at_call 29; (try simp only [i64_w, i32_w]); (with_reducible refine (stress_amount.calls (rd l0 x12_1) true _ A5.out).mono ?_); rintro e w' ⟨rfl, ⟨nd, rfl⟩⟩; (try first | exact ⟨rfl, _, World.drewN_drewN _ _ _⟩ | exact ⟨rfl, _, Eq.trans (World.drewN_drewN _ _ _) (congrArg (World.drewN _) (Nat.add_assoc _ _ _))⟩))); try go_wp2_with (first | (go_at_call 29; (try simp only [i64_w, i32_w]); (with_reducible refine (stress_amount.calls (rd l0 x12_1) true _ A5.out).mono ?_); rintro e w' ⟨rfl, ⟨nd, rfl⟩⟩; (try first | exact ⟨rfl, _, World.drewN_drewN _ _ _⟩ | exact ⟨rfl, _, Eq.trans (World.drewN_drewN _ _ _) (congrArg (World.drewN _) (Nat.add_assoc _ _ _))⟩))))
                  go_roundg k1
                  case measure => have := HK1.out; omega
                  case rel => exact ⟨(x4_1), (x5_1), (wrap64 (x12_1 + 1)), (by first | rfl | (simp; done) | (simp [*]; done) | (simp [wrap64]; done) | (simp [wrap64]; omega)), (by first | rfl | (simp; done) | (simp [*]; done) | (simp [wrap64]; done) | (simp [wrap64]; omega)), (by first | rfl | (simp; done) | (simp [*]; done) | (simp [wrap64]; done) | (simp [wrap64]; omega)), H', ⟨by have := HK1.out; omega⟩, ⟨by repeat (first | (with_reducible first | exact HB.out | apply below_alloc | apply pw_below_drewN | apply below_drew1) | exact HB.out)⟩⟩
            · replace c6 := Bool.eq_false_iff.mpr c6
              subst c6
              have H1 : (some (0, some 103)) = some (r1, r2) := by rw [if_neg (show ¬ (false = true) by decide)] at H; exact H
              clear H
              have H := H1
              clear H1
              simp only [Option.some.injEq, Prod.mk.injEq] at H
              obtain ⟨rfl, rfl⟩ := H
              have p161 : 0 ≤ (x12_1 : Int) := of_decide_eq_true (by first | (with_reducible assumption) | assumption)
              have q161 : x12_1 < (l0.length : Int) := of_decide_eq_true (by first | (with_reducible assumption) | assumption)
              obtain ⟨ad161, e161, hx161_0⟩ := Kd.at_int HR0.out x12_1 p161 q161
              cases e161
              replace hx161_0 := (HB.out.cell (World.block_lt_of_cell? w _ hx161_0)).trans hx161_0
              replace p161 := eq_true p161
              replace q161 := eq_true q161
              go_wp2_with (first | (go_at_call 29; (with_reducible refine (stress_amount.calls (rd l0 x12_1) false _ A5.out).mono ?_); rintro e w' ⟨rfl, ⟨nd, rfl⟩⟩; (try first | exact ⟨rfl, _, World.drewN_drewN _ _ _⟩ | exact ⟨rfl, _, Eq.trans (World.drewN_drewN _ _ _) (congrArg (World.drewN _) (Nat.add_assoc _ _ _))⟩); have hwg9 := GlobOK.at HG.out 103 0 (by simp [globTab]); have hxg9_0 := hwg9; replace hxg9_0 := (HB.out.cell (World.block_lt_of_cell? w _ hxg9_0)).trans hxg9_0; clear hwg9))
              repeat (go_quiet (first | (go_at_call 29; (try simp only [i64_w, i32_w]); (with_reducible refine (stress_amount.calls (rd l0 x12_1) false _ A5.out).mono ?_); rintro e w' ⟨rfl, ⟨nd, rfl⟩⟩; (try first | exact ⟨rfl, _, World.drewN_drewN _ _ _⟩ | exact ⟨rfl, _, Eq.trans (World.drewN_drewN _ _ _) (congrArg (World.drewN _) (Nat.add_assoc _ _ _))⟩); have hwg9 := GlobOK.at HG.out 103 0 (by simp [globTab]); have hxg9_0 := hwg9; replace hxg9_0 := (HB.out.cell (World.block_lt_of_cell? w _ hxg9_0)).trans hxg9_0; clear hwg9)); try go_wp2_with (first | (go_at_call 29; (try simp only [i64_w, i32_w]); (with_reducible refine (stress_amount.calls (rd l0 x12_1) false _ A5.out).mono ?_); rintro e w' ⟨rfl, ⟨nd, rfl⟩⟩; (try first | exact ⟨rfl, _, World.drewN_drewN _ _ _⟩ | exact ⟨rfl, _, Eq.trans (World.drewN_drewN _ _ _) (congrArg (World.drewN _) (Nat.add_assoc _ _ _))⟩); have hwg9 := GlobOK.at HG.out 103 0 (by simp [globTab]); have hxg9_0 := hwg9; replace hxg9_0 := (HB.out.cell (World.block_lt_of_cell? w _ hxg9_0)).trans hxg9_0; clear hwg9)))
              go_ret2
              exact ⟨by first | rfl | (simp [errW_none, errW_some] <;> rfl) | (exfalso; simp_all; done) | (simp [*, errW_none, errW_some] <;> rfl), by repeat (first | (with_reducible first | exact HB.out | apply below_alloc | apply pw_below_drewN | apply below_drew1) | exact HB.out)⟩
          · rw [if_neg c4] at H
            exact absurd H (by simp)
        · rw [if_neg c3] at H
          exact absurd H (by simp)
      · rw [if_neg c2] at H
        have c2b0 : decide (x12_1 < (l0.length : Int)) = false := decide_eq_false c2
        clear c2
        replace H := Option.bind_eq_some_iff.mp H
        obtain ⟨⟨t159, t160⟩, A100, H⟩ := H
        replace H : (if t160 = true then (if t159 > 1000000000000000 then (some (0, some 104)) else (some (t159, none))) else (some (0, some 104))) = some (r1, r2) := H
        have A10 := Aside0.mk A100
        clear A100
        by_cases c11 : t160 = true
        · subst c11
          have H1 : (if t159 > 1000000000000000 then (some (0, some 104)) else (some (t159, none))) = some (r1, r2) := by rw [if_pos rfl] at H; exact H
          clear H
          have H := H1
          clear H1
          by_cases c12 : t159 > 1000000000000000
          · rw [if_pos c12] at H
            have c12b0 : decide (1000000000000000 < t159) = true := decide_eq_true c12
            clear c12
            simp only [Option.some.injEq, Prod.mk.injEq] at H
            obtain ⟨rfl, rfl⟩ := H
            go_wp2_with (first | (go_at_call 66; (with_reducible refine (fix_Add.calls x4_1 x5_1 t159 true _ A10.out).mono ?_); rintro e w' ⟨rfl, ⟨nd, rfl⟩⟩; (try first | exact ⟨rfl, _, World.drewN_drewN _ _ _⟩ | exact ⟨rfl, _, Eq.trans (World.drewN_drewN _ _ _) (congrArg (World.drewN _) (Nat.add_assoc _ _ _))⟩); have hwg13 := GlobOK.at HG.out 104 2 (by simp [globTab]); have hxg13_0 := hwg13; replace hxg13_0 := (HB.out.cell (World.block_lt_of_cell? w _ hxg13_0)).trans hxg13_0; clear hwg13))
            repeat (go_quiet (first | (go_at_call 66; (try simp only [i64_w, i32_w]); (with_reducible refine (fix_Add.calls x4_1 x5_1 t159 true _ A10.out).mono ?_); rintro e w' ⟨rfl, ⟨nd, rfl⟩⟩; (try first | exact ⟨rfl, _, World.drewN_drewN _ _ _⟩ | exact ⟨rfl, _, Eq.trans (World.drewN_drewN _ _ _) (congrArg (World.drewN _) (Nat.add_assoc _ _ _))⟩); have hwg13 := GlobOK.at HG.out 104 2 (by simp [globTab]); have hxg13_0 := hwg13; replace hxg13_0 := (HB.out.cell (World.block_lt_of_cell? w _ hxg13_0)).trans hxg13_0; clear hwg13)); try go_wp2_with (first | (go_at_call 66; (try simp only [i64_w, i32_w]); (with_reducible refine (fix_Add.calls x4_1 x5_1 t159 true _ A10.out).mono ?_); rintro e w' ⟨rfl, ⟨nd, rfl⟩⟩; (try first | exact ⟨rfl, _, World.drewN_drewN _ _ _⟩ | exact ⟨rfl, _, Eq.trans (World.drewN_drewN _ _ _) (congrArg (World.drewN _) (Nat.add_assoc _ _ _))⟩); have hwg13 := GlobOK.at HG.out 104 2 (by simp [globTab]); have hxg13_0 := hwg13; replace hxg13_0 := (HB.out.cell (World.block_lt_of_cell? w _ hxg13_0)).trans hxg13_0; clear hwg13)))
            go_ret2
            exact ⟨by first | rfl | (simp [errW_none, errW_some] <;> rfl) | (exfalso; simp_all; done) | (simp [*, errW_none, errW_some] <;> rfl), by repeat (first | (with_reducible first | exact HB.out | apply below_alloc | apply pw_below_drewN | apply below_drew1) | exact HB.out)⟩
          · rw [if_neg c12] at H
            have c12b0 : decide (1000000000000000 < t159) = false := decide_eq_false c12
            clear c12
            simp only [Option.some.injEq, Prod.mk.injEq] at H
            obtain ⟨rfl, rfl⟩ := H
            go_wp2_with (first | (go_at_call 66; (with_reducible refine (fix_Add.calls x4_1 x5_1 t159 true _ A10.out).mono ?_); rintro e w' ⟨rfl, ⟨nd, rfl⟩⟩; (try first | exact ⟨rfl, _, World.drewN_drewN _ _ _⟩ | exact ⟨rfl, _, Eq.trans (World.drewN_drewN _ _ _) (congrArg (World.drewN _) (Nat.add_assoc _ _ _))⟩)))
            repeat (go_quiet (first | (go_at_call 66; (try simp only [i64_w, i32_w]); (with_reducible refine (fix_Add.calls x4_1 x5_1 t159 true _ A10.out).mono ?_); rintro e w' ⟨rfl, ⟨nd, rfl⟩⟩; (try first | exact ⟨rfl, _, World.drewN_drewN _ _ _⟩ | exact ⟨rfl, _, Eq.trans (World.drewN_drewN _ _ _) (congrArg (World.drewN _) (Nat.add_assoc _ _ _))⟩))); try go_wp2_with (first | (go_at_call 66; (try simp only [i64_w, i32_w]); (with_reducible refine (fix_Add.calls x4_1 x5_1 t159 true _ A10.out).mono ?_); rintro e w' ⟨rfl, ⟨nd, rfl⟩⟩; (try first | exact ⟨rfl, _, World.drewN_drewN _ _ _⟩ | exact ⟨rfl, _, Eq.trans (World.drewN_drewN _ _ _) (congrArg (World.drewN _) (Nat.add_assoc _ _ _))⟩))))
            go_ret2
            exact ⟨by first | rfl | (simp [errW_none, errW_some] <;> rfl) | (exfalso; simp_all; done) | (simp [*, errW_none, errW_some] <;> rfl), by repeat (first | (with_reducible first | exact HB.out | apply below_alloc | apply pw_below_drewN | apply below_drew1) | exact HB.out)⟩
        · replace c11 := Bool.eq_false_iff.mpr c11
          subst c11
          have H1 : (some (0, some 104)) = some (r1, r2) := by rw [if_neg (show ¬ (false = true) by decide)] at H; exact H
          clear H
          have H := H1
          clear H1
          simp only [Option.some.injEq, Prod.mk.injEq] at H
          obtain ⟨rfl, rfl⟩ := H
          go_wp2_with (first | (go_at_call 66; (with_reducible refine (fix_Add.calls x4_1 x5_1 t159 false _ A10.out).mono ?_); rintro e w' ⟨rfl, ⟨nd, rfl⟩⟩; (try first | exact ⟨rfl, _, World.drewN_drewN _ _ _⟩ | exact ⟨rfl, _, Eq.trans (World.drewN_drewN _ _ _) (congrArg (World.drewN _) (Nat.add_assoc _ _ _))⟩); have hwg14 := GlobOK.at HG.out 104 2 (by simp [globTab]); have hxg14_0 := hwg14; replace hxg14_0 := (HB.out.cell (World.block_lt_of_cell? w _ hxg14_0)).trans hxg14_0; clear hwg14))
          repeat (go_quiet (first | (go_at_call 66; (try simp only [i64_w, i32_w]); (with_reducible refine (fix_Add.calls x4_1 x5_1 t159 false _ A10.out).mono ?_); rintro e w' ⟨rfl, ⟨nd, rfl⟩⟩; (try first | exact ⟨rfl, _, World.drewN_drewN _ _ _⟩ | exact ⟨rfl, _, Eq.trans (World.drewN_drewN _ _ _) (congrArg (World.drewN _) (Nat.add_assoc _ _ _))⟩); have hwg14 := GlobOK.at HG.out 104 2 (by simp [globTab]); have hxg14_0 := hwg14; replace hxg14_0 := (HB.out.cell (World.block_lt_of_cell? w _ hxg14_0)).trans hxg14_0; clear hwg14)); try go_wp2_with (first | (go_at_call 66; (try simp only [i64_w, i32_w]); (with_reducible refine (fix_Add.calls x4_1 x5_1 t159 false _ A10.out).mono ?_); rintro e w' ⟨rfl, ⟨nd, rfl⟩⟩; (try first | exact ⟨rfl, _, World.drewN_drewN _ _ _⟩ | exact ⟨rfl, _, Eq.trans (World.drewN_drewN _ _ _) (congrArg (World.drewN _) (Nat.add_assoc _ _ _))⟩); have hwg14 := GlobOK.at HG.out 104 2 (by simp [globTab]); have hxg14_0 := hwg14; replace hxg14_0 := (HB.out.cell (World.block_lt_of_cell? w _ hxg14_0)).trans hxg14_0; clear hwg14)))
          go_ret2
          exact ⟨by first | rfl | (simp [errW_none, errW_some] <;> rfl) | (exfalso; simp_all; done) | (simp [*, errW_none, errW_some] <;> rfl), by repeat (first | (with_reducible first | exact HB.out | apply below_alloc | apply pw_below_drewN | apply below_drew1) | exact HB.out)⟩

/-! ### pledgelaw24_first: function 7 -/
/-! ### A table of losses behind a pointer -/
/-- What Get answers of a table. -/
def TbG (bt : Nat) (T : Int → Int → Int) (w0 : World) : Prop := ∀ (s m : Int), (1 ≤ s ∧ s ≤ 16) → (1 ≤ m ∧ m ≤ 32) → ∀ (W : World), Below w0.heap.size w0 W → Calls Tryd.prog 50 #[.pointer (some ⟨bt, 0, none⟩), .agg #[.int .i64 s, .int .i64 m]] W fun e w' => e = .returned (.int .i64 (T s m)) ∧ Below W.heap.size W w'
theorem TbG.below {bt : Nat} {T : Int → Int → Int} {w w' : World} (h : TbG bt T w) (hb : Below w.heap.size w w') : TbG bt T w' := fun s m hs hm W hW => h s m hs hm W (below_step hb hW)
set_option maxHeartbeats 4000000 in
set_option maxRecDepth 100000 in
theorem get_nil [Inhabited (Int → Addr)] (bt : Nat) (w : World) (hb0 : w.heap[bt]? = some (.cells #[.map none] 33 (0, 0))) : TbG bt (fun _ _ => 0) w := by
  intro s m _ _ W hW
  have hbt := (hW.block bt (blk_lt hb0)).trans hb0
  have hu1 := Tryd.underlying47
  have hu2 := Tryd.underlying33
  have hu3 := Tryd.underlying31
  have hlk : ∀ (W : World), (Instr.lookup 31 (.map none) (.agg #[.int .i64 s, .int .i64 m]) false).run Tryd.prog W = .ok (.int .i64 0) W := fun _ => by rfl
  have BK := Aside0.mk hbt
  clear hW hb0 hbt
  go_enter Tryd.func50, Tryd.ntmps50
  go_wp2_with ((with_reducible refine gate_dst (N := 3) rfl ?_); refine box_event ?hg (N := 3) ?hd (cs := #[.int .i64 s, .int .i64 m]) (t := 47) ?hr ?_; (case hd => rfl); (case hg => rfl); (case hr => first | (go_simp; done) | (go_simp; rfl)); intro gc hg_ w_ hbox hb; have HB := Aside0.mk hb; have BX := Aside0.mk hbox; have n_ := Aside0.mk (blk_below BK.out hb); clear BK; have BK := n_; clear n_ hb hbox hg_)
  have k0 := cell_far ((blk_cell BX.out 0).trans (show _ = some (.int .i64 s) from rfl))
  have k1 := cell_far ((blk_cell BX.out 1).trans (show _ = some (.int .i64 m) from rfl))
  have k2 := cell_far ((blk_cell BK.out 0).trans (show _ = some (.map none) from rfl))
  refine wp_region_far (by kernel_rfl) (by kernel_rfl) ?_
  repeat (refine wpQuiet_step (fun K hK => ?_); go_simp; (refine hK _ ?_; clear hK K))
  refine wpQuiet_nil ?_
  intro _ hw'
  obtain ⟨pq, hw''⟩ := hw'
  subst hw''
  have HB2 := Aside0.mk (below_step HB.out pq.h)
  clear k0 k1 k2
  generalize pq.W = w2 at HB2 ⊢
  clear pq
  go_wp2
  go_ret
  exact ⟨rfl, HB2.out⟩
theorem enters49 : ∀ (args : Array Value) (W : World), (callFunc 49 args).run Tryd.prog W = .ok (.enter 49 args) W := by
  intro args W
  have hf := Tryd.func49
  have h1 : (Tryd.f49).name ≠ "runtime.NumGoroutine" := by decide
  have h2 : (Tryd.f49).body.isSome = true := by rfl
  obtain ⟨c, hc⟩ := Option.isSome_iff_exists.1 h2
  simp [callFunc, hf, h1, hc, mark]
theorem enters26 : ∀ (args : Array Value) (W : World), (callFunc 26 args).run Tryd.prog W = .ok (.enter 26 args) W := by
  intro args W
  have hf := Tryd.func26
  have h1 : (Tryd.f26).name ≠ "runtime.NumGoroutine" := by decide
  have h2 : (Tryd.f26).body.isSome = true := by rfl
  obtain ⟨c, hc⟩ := Option.isSome_iff_exists.1 h2
  simp [callFunc, hf, h1, hc, mark]
theorem amountS_b (n : Int) : stress_amount.f n = some (amtB n) := by
  unfold stress_amount.f amtB
  by_cases h : n ≥ 0
  · rw [if_pos h]; congr 1; exact decide_eq_decide.2 ⟨fun x => ⟨h, x⟩, fun x => x.2⟩
  · rw [if_neg h, decide_eq_false (fun x => h x.1)]
set_option maxHeartbeats 4000000 in
theorem amtS_answers [Inhabited (Int → Addr)] (w : World) : Answers (Value.int .i64) (fun n => !amtB n) 49 #[] w := by
  intro x W _
  have HW := Aside0.mk (fun w => stress_amount.calls x (amtB x) w (amountS_b x))
  have HB := Aside0.mk (Below.refl W.heap.size W)
  go_enter Tryd.func49, Tryd.ntmps49
  go_wp2_with (go_at_call 29; refine (HW.out _).mono ?_; rintro e w2 ⟨rfl, hd⟩; have HB2 := Aside0.mk hd.below; clear hd)
  go_ret
  exact ⟨rfl, HB2.out⟩
set_option maxHeartbeats 4000000 in
theorem pos_answers [Inhabited (Int → Addr)] (w : World) : Answers (Value.int .i64) (fun n => decide (n > 0)) 26 #[] w := by
  intro x W _
  go_enter Tryd.func26, Tryd.ntmps26
  go_wp2
  go_ret
  exact ⟨by first | rfl | simp, Below.refl _ _⟩
/-- What a scene's losses are above what is needed. -/
def aboL (T : Int → Int → Int) (s : Int) (ns : List Int) : Nat → List Int
  | 0 => []
  | i + 1 => aboL T s ns i ++ [mx (wrap64 (T s ((i : Int) + 1) - rd ns (i : Int))) 0]
theorem aboL_len (T : Int → Int → Int) (s : Int) (ns : List Int) : ∀ i : Nat, (aboL T s ns i).length = i
  | 0 => rfl
  | i + 1 => by simp only [aboL, List.length_append, aboL_len T s ns i]; rfl
def twoF (k : Nat) (T : Int → Int → Int) (s : Int) (ns : List Int) : Option (Int × Option Int) :=
  if ns.length ≤ 32 ∧ (1 ≤ s ∧ s ≤ 16) ∧ (ns.any fun n => !amtB n) = false then stress_Top.f k (aboL T s ns ns.length) else none
theorem scene_t (s : Int) (h : 1 ≤ s ∧ s ≤ 16) : stress_scene.f s = some true := by unfold stress_scene.f; rw [if_pos h.1, decide_eq_true h.2]
theorem infoF : (Tryd.prog.info? 2).map (fun i => (i.zero, i.size, i.bytes)) = some (some (.int .i64 0), 1, 8) := by kernel_rfl
set_option maxHeartbeats 8000000 in
set_option maxRecDepth 1000000 in
theorem Two.calls [Inhabited (Int → Addr)] (k bt : Nat) (T : Int → Int → Int) (s : Int) (A2 : Option Addr) (c2 : Nat) (ns : List Int) (r1 : Int) (r2 : Option Int) (w : World) (hG : GlobOK w) (hT : TbG bt T w) (hr2 : Kd.C (Kd.int .i64) w A2 ns.length ns) (hc2 : ns.length ≤ c2) (h : twoF k T s ns = some (r1, r2)) :
    Calls Tryd.prog 34 #[.pointer (some ⟨bt, 0, none⟩), .int .i64 s, .slice A2 ns.length c2] w fun e w' => e = .returned (.tuple #[.int .i64 r1, errW r2]) ∧ Below w.heap.size w w' := by
  unfold twoF at h
  by_cases hok : ns.length ≤ 32 ∧ (1 ≤ s ∧ s ≤ 16) ∧ (ns.any fun n => !amtB n) = false
  rotate_left
  · rw [if_neg hok] at h; exact absurd h (by simp)
  rw [if_pos hok] at h
  have hu1 := Tryd.underlying47
  have HG := Aside0.mk hG
  have HT := Aside0.mk hT
  have HM := Aside0.mk hr2
  have HMC := Aside0.mk hc2
  have HB := Aside0.mk (Below.refl w.heap.size w)
  have HTOP := Aside0.mk h
  have HN32 := Aside0.mk hok.1
  have HSC := Aside0.mk (scene_t s hok.2.1)
  have HSR := Aside0.mk hok.2.1
  have HAN := Aside0.mk hok.2.2
  have cb0 : decide ((ns.length : Int) > 32) = false := decide_eq_false (by omega)
  have cb1 : decide (32 < ns.length) = false := decide_eq_false (by omega)
  clear h hok hG hT hr2 hc2
  go_enter Tryd.func34, Tryd.ntmps34
  go_wp2_with (first
    | (go_at_call 28; have hN := fun W_ => stress_scene.calls s true W_ HSC.out; (with_reducible refine (hN _).mono ?_); clear hN; rintro e w_ ⟨rfl, hd⟩; have hb := hd.below; have n_ := Aside0.mk (below_step HB.out hb); clear HB; have HB := n_; clear n_; clear hb hd)
    | (go_at_call 25; have hN := has_ints ns A2 c2 _ (Kd.C_below HM.out HB.out) (fun n => !amtB n) 49 #[] (amtS_answers _) enters49; rw [HAN.out] at hN; (with_reducible refine hN.mono ?_); clear hN; rintro e w_ ⟨rfl, hb⟩; have n_ := Aside0.mk (below_step HB.out hb); clear HB; have HB := n_; clear n_; clear hb))
  clear cb0 cb1
  go_loopg [8, 25] ns.length (fun gq v8 v25 wr => ∃ (i : Nat), v25 = .int .i64 i ∧ Aside0 (i ≤ ns.length) ∧ Aside0 (ns.length ≤ gq + i) ∧ Aside0 (Below w.heap.size w wr) ∧ Aside0 (Kd.R (Kd.int .i64) 2 wr w.heap.size (fun _ => True) v8 (aboL T s ns i)))
  case atStart => exact ⟨0, rfl, ⟨by omega⟩, ⟨by omega⟩, HB, ⟨Kd.R_nil _ _ _ _ _⟩⟩
  case round =>
    clear HB
    obtain ⟨i, rfl, HI, HKI, HB, HO⟩ := hrel
    by_cases hlt : i < ns.length
    · have cb1 : decide ((i : Int) < (ns.length : Int)) = true := decide_eq_true (by omega)
      have cb2 : ((i : Int) < (ns.length : Int)) = True := eq_true (by omega)
      have cb3 : (i < ns.length) = True := eq_true hlt
      have cb4 : decide (i < ns.length) = true := decide_eq_true hlt
      have HLI := Aside0.mk hlt
      have hW1 : wrap64 ((i : Int) + 1) = ((i + 1 : Nat) : Int) := by have := HN32.out; unfold wrap64; omega
      have HW := Aside0.mk hW1
      obtain ⟨ad, eA, hx⟩ := Kd.at_int (Kd.C_below HM.out HB.out) (i : Int) (by omega) (by omega)
      subst eA
      rw [Int.toNat_natCast] at hx
      clear hlt
      by_cases hneg : wrap64 (T s ((i : Int) + 1) - rd ns (i : Int)) < 0
      · have HMX := Aside0.mk (show mx (wrap64 (T s ((i : Int) + 1) - rd ns (i : Int))) 0 = 0 by unfold mx; rw [if_pos hneg])
        have cb5 : (wrap64 (T s ((i : Int) + 1) - rd ns (i : Int)) < 0) = True := eq_true hneg
        have cb6 : decide (wrap64 (T s ((i : Int) + 1) - rd ns (i : Int)) < 0) = true := decide_eq_true hneg
        clear hneg
        go_wp2_with (first
          | (go_at_call 50; have hN := HT.out s ((i : Int) + 1) HSR.out ⟨by omega, by have := HN32.out; have := HLI.out; omega⟩ _ HB.out; (with_reducible refine hN.mono ?_); clear hN; rintro e w_ ⟨rfl, hb⟩; have n6_ := Aside0.mk (Kd.R_below HO.out hb); clear HO; have HO := n6_; clear n6_; have n_ := Aside0.mk (below_step HB.out hb); clear HB; have HB := n_; clear n_; clear hb)
          | ((with_reducible refine gate_builtin (b := .append) (xs := #[.tmp 30, .tmp 40]) rfl ?_); at_builtin; refine Kd.R_append (Kd.int .i64) w.heap.size rfl (.tmp 30) (.tmp 40) 29 2 (.int .i64 0) 8 rfl Tryd.underlying29 infoF rfl (by decide) (by omega) u8 (aboL T s ns i) (0 : Int) [.int .i64 (0 : Int)] (fun _ => True) (fun _ => False) rfl (by first | (go_simp; done) | (go_simp; rfl)) ?aP (fun _ hk => hk.elim) (fun _ _ => trivial) ?aO (Below.refl _ _) ?aS ?aL ?_; (case aP => exact rfl); (case aO => exact HO.out); (case aS => exact below_size HB.out); (case aL => rw [aboL_len]; have := HLI.out; have := HN32.out; omega); intro v2_ w_ ho hb hg_ hat; have n1_ := Aside0.mk (HB.out.trans hb); clear HB HO; have HB := n1_; have HO := Aside0.mk ho; clear n1_ ho hb hg_ hat))
        go_roundg (ns.length - (i + 1))
        case measure => have := HKI.out; have := HLI.out; omega
        case rel => exact ⟨i + 1, by first | rw [HW.out] | rfl, ⟨by have := HLI.out; omega⟩, ⟨by have := HLI.out; omega⟩, HB, ⟨by have h_ := HO.out; rw [← HMX.out] at h_; exact h_⟩⟩
      · have HMX := Aside0.mk (show mx (wrap64 (T s ((i : Int) + 1) - rd ns (i : Int))) 0 = wrap64 (T s ((i : Int) + 1) - rd ns (i : Int)) by unfold mx; rw [if_neg hneg])
        have cb5 : (wrap64 (T s ((i : Int) + 1) - rd ns (i : Int)) < 0) = False := eq_false hneg
        have cb6 : decide (wrap64 (T s ((i : Int) + 1) - rd ns (i : Int)) < 0) = false := decide_eq_false hneg
        have cb7 : (0 ≤ wrap64 (T s ((i : Int) + 1) - rd ns (i : Int))) = True := eq_true (by omega)
        clear hneg
        go_wp2_with (first
          | (go_at_call 50; have hN := HT.out s ((i : Int) + 1) HSR.out ⟨by omega, by have := HN32.out; have := HLI.out; omega⟩ _ HB.out; (with_reducible refine hN.mono ?_); clear hN; rintro e w_ ⟨rfl, hb⟩; have n6_ := Aside0.mk (Kd.R_below HO.out hb); clear HO; have HO := n6_; clear n6_; have n_ := Aside0.mk (below_step HB.out hb); clear HB; have HB := n_; clear n_; clear hb)
          | ((with_reducible refine gate_builtin (b := .append) (xs := #[.tmp 30, .tmp 40]) rfl ?_); at_builtin; refine Kd.R_append (Kd.int .i64) w.heap.size rfl (.tmp 30) (.tmp 40) 29 2 (.int .i64 0) 8 rfl Tryd.underlying29 infoF rfl (by decide) (by omega) u8 (aboL T s ns i) (wrap64 (T s ((i : Int) + 1) - rd ns (i : Int))) [.int .i64 (wrap64 (T s ((i : Int) + 1) - rd ns (i : Int)))] (fun _ => True) (fun _ => False) rfl (by first | (go_simp; done) | (go_simp; rfl)) ?aP (fun _ hk => hk.elim) (fun _ _ => trivial) ?aO (Below.refl _ _) ?aS ?aL ?_; (case aP => exact rfl); (case aO => exact HO.out); (case aS => exact below_size HB.out); (case aL => rw [aboL_len]; have := HLI.out; have := HN32.out; omega); intro v2_ w_ ho hb hg_ hat; have n1_ := Aside0.mk (HB.out.trans hb); clear HB HO; have HB := n1_; have HO := Aside0.mk ho; clear n1_ ho hb hg_ hat))
        go_roundg (ns.length - (i + 1))
        case measure => have := HKI.out; have := HLI.out; omega
        case rel => exact ⟨i + 1, by first | rw [HW.out] | rfl, ⟨by have := HLI.out; omega⟩, ⟨by have := HLI.out; omega⟩, HB, ⟨by have h_ := HO.out; rw [← HMX.out] at h_; exact h_⟩⟩
    · obtain rfl : ns.length = i := by have := HI.out; omega
      have cb1 : decide ((ns.length : Int) < (ns.length : Int)) = false := decide_eq_false (by omega)
      have cb2 : ((ns.length : Int) < (ns.length : Int)) = False := eq_false (by omega)
      have cb3 : decide (ns.length < ns.length) = false := decide_eq_false (by omega)
      obtain ⟨A5, c5, rfl, hl5, hC5⟩ := Kd.R_reads HO.out
      have HC5 := Aside0.mk hC5
      have HL5 := Aside0.mk hl5
      clear hl5 hC5 HO hlt
      go_wp2_with (go_at_call 51; have hN := stress_Top.calls k A5 c5 (aboL T s ns ns.length) r1 r2 _ (HG.out.below HB.out) HC5.out HL5.out HTOP.out; (with_reducible refine hN.mono ?_); clear hN; rintro e w_ ⟨rfl, hb⟩; have n_ := Aside0.mk (below_step HB.out hb); clear HB; have HB := n_; clear n_; clear hb)
      go_ret2
      exact ⟨rfl, HB.out⟩
/-- The greatest of the scenes from s on. -/
def covL (k : Nat) (T : Int → Int → Int) (ns : List Int) : Nat → Nat → Int → Int → Option (Int × Int)
  | 0, _, m, b => some (m, b)
  | d + 1, s, m, b => (twoF k T (s : Int) ns).bind fun n => if n.2 = none then (if n.1 > m then covL k T ns d (s + 1) n.1 (s : Int) else covL k T ns d (s + 1) m b) else none
set_option maxHeartbeats 8000000 in
set_option maxRecDepth 1000000 in
theorem Cover.calls [Inhabited (Int → Addr)] (k bt : Nat) (T : Int → Int → Int) (A1 : Option Addr) (c1 : Nat) (ns : List Int) (r1 r2 : Int) (w : World) (hG : GlobOK w) (hT : TbG bt T w) (hr1 : Kd.C (Kd.int .i64) w A1 ns.length ns) (hc1 : ns.length ≤ c1) (h : covL k T ns 16 1 0 1 = some (r1, r2)) :
    Calls Tryd.prog 18 #[.pointer (some ⟨bt, 0, none⟩), .slice A1 ns.length c1] w fun e w' => e = .returned (.tuple #[.int .i64 r1, .int .i64 r2, .nilIface]) ∧ Below w.heap.size w w' := by
  have HG := Aside0.mk hG
  have HT := Aside0.mk hT
  have HM := Aside0.mk hr1
  have HMC := Aside0.mk hc1
  have HB := Aside0.mk (Below.refl w.heap.size w)
  have HRUN1 := Aside0.mk h
  clear hG hT hr1 hc1 h
  go_enter Tryd.func18, Tryd.ntmps18
  go_wp2
  go_loopg [7, 8, 9] 16 (fun gq v7 v8 v9 wr => ∃ (s : Nat) (m b : Int), v9 = .int .i64 s ∧ v7 = .int .i64 m ∧ v8 = .int .i64 b ∧ Aside0 (1 ≤ s ∧ s ≤ 17) ∧ Aside0 (17 ≤ gq + s) ∧ Aside0 (covL k T ns (17 - s) s m b = some (r1, r2)) ∧ Aside0 (Below w.heap.size w wr))
  case atStart => exact ⟨1, 0, 1, rfl, rfl, rfl, ⟨by omega⟩, ⟨by omega⟩, HRUN1, HB⟩
  case round =>
    clear HB HRUN1
    obtain ⟨s, m, b, rfl, rfl, rfl, HS, HKS, HRUN, HB⟩ := hrel
    by_cases hlt : s ≤ 16
    · have cb1 : decide ((s : Int) ≤ 16) = true := decide_eq_true (by omega)
      have cb2 : decide (s ≤ 16) = true := decide_eq_true hlt
      have cb3 : (s ≤ 16) = True := eq_true hlt
      have cb4 : ((s : Int) ≤ 16) = True := eq_true (by omega)
      have HLS := Aside0.mk hlt
      have HW : Aside0 (wrap64 ((s : Int) + 1) = ((s + 1 : Nat) : Int)) := ⟨by unfold wrap64; omega⟩
      obtain ⟨d, hd⟩ : ∃ d, 17 - s = d + 1 := ⟨16 - s, by omega⟩
      have hrun := HRUN.out
      rw [hd] at hrun
      simp only [covL] at hrun
      obtain ⟨⟨n1, n2⟩, htw, hrun⟩ := Option.bind_eq_some_iff.mp hrun
      simp only [] at hrun
      by_cases hn : n2 = none
      rotate_left
      · rw [if_neg hn] at hrun; exact absurd hrun (by simp)
      rw [if_pos hn] at hrun
      subst hn
      have HTW := Aside0.mk htw
      have HD := Aside0.mk hd
      by_cases hgt : n1 > m
      · rw [if_pos hgt] at hrun
        have HRUNB := Aside0.mk hrun
        have cb5 : decide (n1 > m) = true := decide_eq_true hgt
        have cb6 : decide (m < n1) = true := decide_eq_true hgt
        clear hrun hd htw hlt hgt HRUN
        go_wp2_with (go_at_call 34; have hN := Two.calls k bt T (s : Int) A1 c1 ns n1 none _ (HG.out.below HB.out) (HT.out.below HB.out) (Kd.C_below HM.out HB.out) HMC.out HTW.out; simp only [errW_none] at hN; (with_reducible refine hN.mono ?_); clear hN; rintro e w_ ⟨rfl, hb⟩; have n_ := Aside0.mk (below_step HB.out hb); clear HB; have HB := n_; clear n_; clear hb)
        go_roundg (16 - s)
        case measure => have := HKS.out; have := HLS.out; omega
        case rel => exact ⟨s + 1, _, _, by rw [HW.out], rfl, rfl, ⟨by have := HS.out; have := HLS.out; omega⟩, ⟨by have := HLS.out; omega⟩, ⟨by rw [show 17 - (s + 1) = d by have := HD.out; omega]; exact HRUNB.out⟩, HB⟩
      · rw [if_neg hgt] at hrun
        have HRUNB := Aside0.mk hrun
        have cb5 : decide (n1 > m) = false := decide_eq_false hgt
        have cb6 : decide (m < n1) = false := decide_eq_false hgt
        clear hrun hd htw hlt hgt HRUN
        go_wp2_with (go_at_call 34; have hN := Two.calls k bt T (s : Int) A1 c1 ns n1 none _ (HG.out.below HB.out) (HT.out.below HB.out) (Kd.C_below HM.out HB.out) HMC.out HTW.out; simp only [errW_none] at hN; (with_reducible refine hN.mono ?_); clear hN; rintro e w_ ⟨rfl, hb⟩; have n_ := Aside0.mk (below_step HB.out hb); clear HB; have HB := n_; clear n_; clear hb)
        go_roundg (16 - s)
        case measure => have := HKS.out; have := HLS.out; omega
        case rel => exact ⟨s + 1, _, _, by rw [HW.out], rfl, rfl, ⟨by have := HS.out; have := HLS.out; omega⟩, ⟨by have := HLS.out; omega⟩, ⟨by rw [show 17 - (s + 1) = d by have := HD.out; omega]; exact HRUNB.out⟩, HB⟩
    · obtain rfl : s = 17 := by have := HS.out; omega
      have hr := Prod.mk.inj (Option.some.inj (show some (m, b) = some (r1, r2) from HRUN.out))
      obtain ⟨rfl, rfl⟩ := hr
      clear HRUN hlt
      go_wp2
      go_ret3
      exact ⟨rfl, HB.out⟩
/-- The fund of a table's losses: how great, of which scene, whose is how much. -/
def sizeF (k : Nat) (T : Int → Int → Int) (fl mo : Int) (ns : List Int) : Option (Int × Int × List Int) :=
  (fund_Clamp.f 0 fl mo).bind fun c => if c.2 = none then (covL k T ns 16 1 0 1).bind fun cv => (fund_Clamp.f cv.1 fl mo).bind fun t => if t.2 = none then
    (if ns.length = 0 then some (t.1, cv.2, []) else if ns.length ≤ 32 ∧ (ns.any fun n => decide (n > 0)) = true then (share_Split.f t.1 ns).bind fun s => if s.2 = none then some (t.1, cv.2, s.1) else none else none) else none else none
set_option maxHeartbeats 8000000 in
set_option maxRecDepth 1000000 in
theorem Size.calls [Inhabited (Int → Addr)] (k bt : Nat) (T : Int → Int → Int) (fl mo : Int) (A3 : Option Addr) (c3 : Nat) (ns : List Int) (tg sc : Int) (sh : List Int) (w : World) (hG : GlobOK w) (hT : TbG bt T w) (hr3 : Kd.C (Kd.int .i64) w A3 ns.length ns) (hc3 : ns.length ≤ c3) (h : sizeF k T fl mo ns = some (tg, sc, sh)) :
    Calls Tryd.prog 11 #[.pointer (some ⟨bt, 0, none⟩), .int .i64 fl, .int .i64 mo, .slice A3 ns.length c3] w fun e w' => ∃ AS cS, e = .returned (.tuple #[.agg #[.int .i64 fl, .int .i64 mo, .int .i64 tg, .int .i64 sc, .slice AS sh.length cS], .nilIface]) ∧ Kd.R (Kd.int .i64) 2 w' w.heap.size (fun _ => True) (.slice AS sh.length cS) sh ∧ Below w.heap.size w w' := by
  have hu1 := Tryd.underlying35
  have HG := Aside0.mk hG
  have HT := Aside0.mk hT
  have HM := Aside0.mk hr3
  have HMC := Aside0.mk hc3
  have HB := Aside0.mk (Below.refl w.heap.size w)
  unfold sizeF at h
  obtain ⟨⟨q1, q2⟩, hcl, h⟩ := Option.bind_eq_some_iff.mp h
  simp only [] at h
  by_cases hq : q2 = none
  rotate_left
  · rw [if_neg hq] at h; exact absurd h (by simp)
  rw [if_pos hq] at h
  subst hq
  obtain ⟨⟨cv, sc'⟩, hcv, h⟩ := Option.bind_eq_some_iff.mp h
  obtain ⟨⟨t1, t2⟩, hct, h⟩ := Option.bind_eq_some_iff.mp h
  simp only [] at h
  by_cases hq : t2 = none
  rotate_left
  · rw [if_neg hq] at h; exact absurd h (by simp)
  rw [if_pos hq] at h
  subst hq
  have HCL := Aside0.mk hcl
  have HCT := Aside0.mk hct
  clear hcl hct hG hT hr3 hc3
  by_cases hn : ns.length = 0
  · rw [if_pos hn] at h
    simp only [Option.some.injEq, Prod.mk.injEq] at h
    obtain ⟨e1, e2, e3⟩ := h
    have e1' := e1.symm
    have e2' := e2.symm
    clear e1 e2
    subst e1'
    subst e2'
    subst e3
    have HCV := Aside0.mk hcv
    have cb0 : ((ns.length : Int) == 0) = true := beq_iff_eq.mpr (by omega)
    have cb1 : (ns.length == 0) = true := beq_iff_eq.mpr hn
    have cb2 : (ns.length = 0) = True := eq_true hn
    clear hcv hn
    go_enter Tryd.func11, Tryd.ntmps11
    go_upto_region 11 with (first
      | ((with_reducible refine gate_dst (N := 8) rfl ?_); refine box_event ?hg (N := 8) ?hd (cs := #[.int .i64 0, .int .i64 0, .int .i64 0, .int .i64 0, .slice none 0 0]) (t := 35) ?hr ?_; (case hd => rfl); (case hg => rfl); (case hr => first | (go_simp; done) | (go_simp; rfl)); intro g8 hg_ w_ hbox hb; have HG8 := Aside0.mk (show w.heap.size ≤ g8 from Nat.le_trans (below_size HB.out) (Nat.le_of_eq hg_.symm)); have n_ := Aside0.mk (below_step HB.out hb); clear HB; have HB := n_; clear n_; have BK8 := Aside0.mk hbox; clear hb hbox hg_; have a0 : w_.cell? ⟨g8, 0, none⟩ = some (.int .i64 0) := (blk_cell BK8.out 0).trans rfl; have a1 : w_.cell? ⟨g8, 1, none⟩ = some (.int .i64 0) := (blk_cell BK8.out 1).trans rfl; have a2 : w_.cell? ⟨g8, 2, none⟩ = some (.int .i64 0) := (blk_cell BK8.out 2).trans rfl; have a3 : w_.cell? ⟨g8, 3, none⟩ = some (.int .i64 0) := (blk_cell BK8.out 3).trans rfl; have a4 : w_.cell? ⟨g8, 4, none⟩ = some (.slice none 0 0) := (blk_cell BK8.out 4).trans rfl; have af0 := blk_frozen BK8.out 0; have af1 := blk_frozen BK8.out 1; have af2 := blk_frozen BK8.out 2; have af3 := blk_frozen BK8.out 3; have af4 := blk_frozen BK8.out 4)
      | (go_at_call 8; have hN := fund_Clamp.calls 0 fl mo q1 none _ (HG.out.below HB.out) HCL.out; simp only [errW_none] at hN; (with_reducible refine hN.mono ?_); clear hN; rintro e w_ ⟨rfl, hb⟩; have n_ := Aside0.mk (below_step HB.out hb); clear HB; have HB := n_; clear n_; have n_ := Aside0.mk (blk_below BK8.out hb); (try clear a0 af0 a1 af1 a2 af2 a3 af3 a4 af4); clear BK8; have BK8 := n_; clear n_; have a0 : w_.cell? ⟨g8, 0, none⟩ = some (.int .i64 0) := (blk_cell BK8.out 0).trans rfl; have a1 : w_.cell? ⟨g8, 1, none⟩ = some (.int .i64 0) := (blk_cell BK8.out 1).trans rfl; have a2 : w_.cell? ⟨g8, 2, none⟩ = some (.int .i64 0) := (blk_cell BK8.out 2).trans rfl; have a3 : w_.cell? ⟨g8, 3, none⟩ = some (.int .i64 0) := (blk_cell BK8.out 3).trans rfl; have a4 : w_.cell? ⟨g8, 4, none⟩ = some (.slice none 0 0) := (blk_cell BK8.out 4).trans rfl; have af0 := blk_frozen BK8.out 0; have af1 := blk_frozen BK8.out 1; have af2 := blk_frozen BK8.out 2; have af3 := blk_frozen BK8.out 3; have af4 := blk_frozen BK8.out 4; clear hb)
      | (go_at_call 18; have hN := Cover.calls k bt T A3 c3 ns cv sc _ (HG.out.below HB.out) (HT.out.below HB.out) (Kd.C_below HM.out HB.out) HMC.out HCV.out; (with_reducible refine hN.mono ?_); clear hN; rintro e w_ ⟨rfl, hb⟩; have n_ := Aside0.mk (below_step HB.out hb); clear HB; have HB := n_; clear n_; have n_ := Aside0.mk (blk_below BK8.out hb); (try clear a0 af0 a1 af1 a2 af2 a3 af3 a4 af4); clear BK8; have BK8 := n_; clear n_; have a0 : w_.cell? ⟨g8, 0, none⟩ = some (.int .i64 0) := (blk_cell BK8.out 0).trans rfl; have a1 : w_.cell? ⟨g8, 1, none⟩ = some (.int .i64 0) := (blk_cell BK8.out 1).trans rfl; have a2 : w_.cell? ⟨g8, 2, none⟩ = some (.int .i64 0) := (blk_cell BK8.out 2).trans rfl; have a3 : w_.cell? ⟨g8, 3, none⟩ = some (.int .i64 0) := (blk_cell BK8.out 3).trans rfl; have a4 : w_.cell? ⟨g8, 4, none⟩ = some (.slice none 0 0) := (blk_cell BK8.out 4).trans rfl; have af0 := blk_frozen BK8.out 0; have af1 := blk_frozen BK8.out 1; have af2 := blk_frozen BK8.out 2; have af3 := blk_frozen BK8.out 3; have af4 := blk_frozen BK8.out 4; clear hb)
      | (go_at_call 8; have hN := fund_Clamp.calls cv fl mo tg none _ (HG.out.below HB.out) HCT.out; simp only [errW_none] at hN; (with_reducible refine hN.mono ?_); clear hN; rintro e w_ ⟨rfl, hb⟩; have n_ := Aside0.mk (below_step HB.out hb); clear HB; have HB := n_; clear n_; have n_ := Aside0.mk (blk_below BK8.out hb); (try clear a0 af0 a1 af1 a2 af2 a3 af3 a4 af4); clear BK8; have BK8 := n_; clear n_; have a0 : w_.cell? ⟨g8, 0, none⟩ = some (.int .i64 0) := (blk_cell BK8.out 0).trans rfl; have a1 : w_.cell? ⟨g8, 1, none⟩ = some (.int .i64 0) := (blk_cell BK8.out 1).trans rfl; have a2 : w_.cell? ⟨g8, 2, none⟩ = some (.int .i64 0) := (blk_cell BK8.out 2).trans rfl; have a3 : w_.cell? ⟨g8, 3, none⟩ = some (.int .i64 0) := (blk_cell BK8.out 3).trans rfl; have a4 : w_.cell? ⟨g8, 4, none⟩ = some (.slice none 0 0) := (blk_cell BK8.out 4).trans rfl; have af0 := blk_frozen BK8.out 0; have af1 := blk_frozen BK8.out 1; have af2 := blk_frozen BK8.out 2; have af3 := blk_frozen BK8.out 3; have af4 := blk_frozen BK8.out 4; clear hb)
      | ((with_reducible refine gate_dst (N := 16) rfl ?_); refine box_event ?hg (N := 16) ?hd (cs := #[.int .i64 0, .int .i64 0, .int .i64 0, .int .i64 0, .slice none 0 0]) (t := 35) ?hr ?_; (case hd => rfl); (case hg => rfl); (case hr => first | (go_simp; done) | (go_simp; rfl)); intro g16 hg_ w_ hbox hb; have HNE := Aside0.mk (show g8 ≠ g16 from by have := blk_lt BK8.out; omega); have HG16 := Aside0.mk (show w.heap.size ≤ g16 from Nat.le_trans (below_size HB.out) (Nat.le_of_eq hg_.symm)); have n_ := Aside0.mk (below_step HB.out hb); clear HB; have HB := n_; clear n_; have n_ := Aside0.mk (blk_below BK8.out hb); (try clear a0 af0 a1 af1 a2 af2 a3 af3 a4 af4); clear BK8; have BK8 := n_; clear n_; have a0 : w_.cell? ⟨g8, 0, none⟩ = some (.int .i64 0) := (blk_cell BK8.out 0).trans rfl; have a1 : w_.cell? ⟨g8, 1, none⟩ = some (.int .i64 0) := (blk_cell BK8.out 1).trans rfl; have a2 : w_.cell? ⟨g8, 2, none⟩ = some (.int .i64 0) := (blk_cell BK8.out 2).trans rfl; have a3 : w_.cell? ⟨g8, 3, none⟩ = some (.int .i64 0) := (blk_cell BK8.out 3).trans rfl; have a4 : w_.cell? ⟨g8, 4, none⟩ = some (.slice none 0 0) := (blk_cell BK8.out 4).trans rfl; have af0 := blk_frozen BK8.out 0; have af1 := blk_frozen BK8.out 1; have af2 := blk_frozen BK8.out 2; have af3 := blk_frozen BK8.out 3; have af4 := blk_frozen BK8.out 4; have BK16 := Aside0.mk hbox; clear hb hbox hg_; have hn1_ := HNE.out; have hn2_ := HNE.out.symm; have y0 : w_.cell? ⟨g16, 0, none⟩ = some (.int .i64 0) := (blk_cell BK16.out 0).trans rfl; have y1 : w_.cell? ⟨g16, 1, none⟩ = some (.int .i64 0) := (blk_cell BK16.out 1).trans rfl; have y2 : w_.cell? ⟨g16, 2, none⟩ = some (.int .i64 0) := (blk_cell BK16.out 2).trans rfl; have y3 : w_.cell? ⟨g16, 3, none⟩ = some (.int .i64 0) := (blk_cell BK16.out 3).trans rfl; have y4 : w_.cell? ⟨g16, 4, none⟩ = some (.slice none 0 0) := (blk_cell BK16.out 4).trans rfl; have yf0 := blk_frozen BK16.out 0; have yf1 := blk_frozen BK16.out 1; have yf2 := blk_frozen BK16.out 2; have yf3 := blk_frozen BK16.out 3; have yf4 := blk_frozen BK16.out 4))
    have n1_ := Aside0.mk (blk_put (blk_put (blk_put (blk_put (blk_put BK16.out 0 (.int .i64 fl) rfl) 1 (.int .i64 mo) rfl) 2 (.int .i64 tg) rfl) 3 (.int .i64 sc) rfl) 4 (.slice none 0 0) rfl)
    have n2_ := Aside0.mk ((Below.heap_setCell _ ⟨g16, 4, none⟩ (.slice none 0 0) g8 HNE.out).trans ((Below.heap_setCell _ ⟨g16, 3, none⟩ (.int .i64 sc) g8 HNE.out).trans ((Below.heap_setCell _ ⟨g16, 2, none⟩ (.int .i64 tg) g8 HNE.out).trans ((Below.heap_setCell _ ⟨g16, 1, none⟩ (.int .i64 mo) g8 HNE.out).trans ((Below.heap_setCell _ ⟨g16, 0, none⟩ (.int .i64 fl) g8 HNE.out).trans BK8.out)))))
    have n3_ := Aside0.mk (((((HB.out.setCell (p := ⟨g16, 0, none⟩) HG16.out (.int .i64 fl)).setCell (p := ⟨g16, 1, none⟩) HG16.out (.int .i64 mo)).setCell (p := ⟨g16, 2, none⟩) HG16.out (.int .i64 tg)).setCell (p := ⟨g16, 3, none⟩) HG16.out (.int .i64 sc)).setCell (p := ⟨g16, 4, none⟩) HG16.out (.slice none 0 0))
    clear BK16 BK8 HB a0 af0 a1 af1 a2 af2 a3 af3 a4 af4 y0 yf0 y1 yf1 y2 yf2 y3 yf3 y4 yf4
    generalize (((((w_.setCell ⟨g16, 0, none⟩ (.int .i64 fl)).setCell ⟨g16, 1, none⟩ (.int .i64 mo)).setCell ⟨g16, 2, none⟩ (.int .i64 tg)).setCell ⟨g16, 3, none⟩ (.int .i64 sc)).setCell ⟨g16, 4, none⟩ (.slice none 0 0)) = w5 at n1_ n2_ n3_ ⊢
    have BK16 : Aside0 (w5.heap[g16]? = some (.cells #[.int .i64 fl, .int .i64 mo, .int .i64 tg, .int .i64 sc, .slice none 0 0] 35 (0, 0))) := ⟨n1_.out.trans rfl⟩
    have BK8 := n2_
    have HB := n3_
    clear n1_ n2_ n3_
    have a0 : w5.cell? ⟨g8, 0, none⟩ = some (.int .i64 0) := (blk_cell BK8.out 0).trans rfl
    have a1 : w5.cell? ⟨g8, 1, none⟩ = some (.int .i64 0) := (blk_cell BK8.out 1).trans rfl
    have a2 : w5.cell? ⟨g8, 2, none⟩ = some (.int .i64 0) := (blk_cell BK8.out 2).trans rfl
    have a3 : w5.cell? ⟨g8, 3, none⟩ = some (.int .i64 0) := (blk_cell BK8.out 3).trans rfl
    have a4 : w5.cell? ⟨g8, 4, none⟩ = some (.slice none 0 0) := (blk_cell BK8.out 4).trans rfl
    have af0 := blk_frozen BK8.out 0
    have af1 := blk_frozen BK8.out 1
    have af2 := blk_frozen BK8.out 2
    have af3 := blk_frozen BK8.out 3
    have af4 := blk_frozen BK8.out 4
    have y0 : w5.cell? ⟨g16, 0, none⟩ = some (.int .i64 fl) := (blk_cell BK16.out 0).trans rfl
    have y1 : w5.cell? ⟨g16, 1, none⟩ = some (.int .i64 mo) := (blk_cell BK16.out 1).trans rfl
    have y2 : w5.cell? ⟨g16, 2, none⟩ = some (.int .i64 tg) := (blk_cell BK16.out 2).trans rfl
    have y3 : w5.cell? ⟨g16, 3, none⟩ = some (.int .i64 sc) := (blk_cell BK16.out 3).trans rfl
    have y4 : w5.cell? ⟨g16, 4, none⟩ = some (.slice none 0 0) := (blk_cell BK16.out 4).trans rfl
    have yf0 := blk_frozen BK16.out 0
    have yf1 := blk_frozen BK16.out 1
    have yf2 := blk_frozen BK16.out 2
    have yf3 := blk_frozen BK16.out 3
    have yf4 := blk_frozen BK16.out 4
    go_wp2
    refine bodyPost_ret (results_ct rfl _ _ g8 35 #[.int .i64 fl, .int .i64 mo, .int .i64 tg, .int .i64 sc, .slice none 0 0] (0, 0) _ rfl ((blk_put (blk_put (blk_put (blk_put (blk_put BK8.out 0 (.int .i64 fl) rfl) 1 (.int .i64 mo) rfl) 2 (.int .i64 tg) rfl) 3 (.int .i64 sc) rfl) 4 (.slice none 0 0) rfl).trans rfl) Tryd.underlying35 rfl (by kernel_rfl)) rfl ?_
    exact ⟨none, 0, rfl, Kd.R_nil _ _ _ _ _, (((((HB.out.setCell (p := ⟨g8, 0, none⟩) HG8.out (.int .i64 fl)).setCell (p := ⟨g8, 1, none⟩) HG8.out (.int .i64 mo)).setCell (p := ⟨g8, 2, none⟩) HG8.out (.int .i64 tg)).setCell (p := ⟨g8, 3, none⟩) HG8.out (.int .i64 sc)).setCell (p := ⟨g8, 4, none⟩) HG8.out (.slice none 0 0))⟩
  · rw [if_neg hn] at h
    by_cases hany : ns.length ≤ 32 ∧ (ns.any fun n => decide (n > 0)) = true
    rotate_left
    · rw [if_neg hany] at h; exact absurd h (by simp)
    rw [if_pos hany] at h
    obtain ⟨⟨sh', se⟩, hsp, h⟩ := Option.bind_eq_some_iff.mp h
    simp only [] at h
    by_cases hq : se = none
    rotate_left
    · rw [if_neg hq] at h; exact absurd h (by simp)
    rw [if_pos hq] at h
    subst hq
    simp only [Option.some.injEq, Prod.mk.injEq] at h
    obtain ⟨e1, e2, e3⟩ := h
    have e1' := e1.symm
    have e2' := e2.symm
    have e3' := e3.symm
    clear e1 e2 e3
    subst e1'
    subst e2'
    subst e3'
    have HCV := Aside0.mk hcv
    have HAN := Aside0.mk hany.2
    have HN32 := Aside0.mk hany.1
    have HSP := Aside0.mk hsp
    have cb0 : ((ns.length : Int) == 0) = false := beq_eq_false_iff_ne.mpr (by omega)
    have cb1 : (ns.length == 0) = false := beq_eq_false_iff_ne.mpr hn
    have cb2 : (ns.length = 0) = False := eq_false hn
    clear hcv hn hany hsp
    go_enter Tryd.func11, Tryd.ntmps11
    go_upto_region 11 with (first
      | ((with_reducible refine gate_dst (N := 8) rfl ?_); refine box_event ?hg (N := 8) ?hd (cs := #[.int .i64 0, .int .i64 0, .int .i64 0, .int .i64 0, .slice none 0 0]) (t := 35) ?hr ?_; (case hd => rfl); (case hg => rfl); (case hr => first | (go_simp; done) | (go_simp; rfl)); intro g8 hg_ w_ hbox hb; have HG8 := Aside0.mk (show w.heap.size ≤ g8 from Nat.le_trans (below_size HB.out) (Nat.le_of_eq hg_.symm)); have n_ := Aside0.mk (below_step HB.out hb); clear HB; have HB := n_; clear n_; have BK8 := Aside0.mk hbox; clear hb hbox hg_; have a0 : w_.cell? ⟨g8, 0, none⟩ = some (.int .i64 0) := (blk_cell BK8.out 0).trans rfl; have a1 : w_.cell? ⟨g8, 1, none⟩ = some (.int .i64 0) := (blk_cell BK8.out 1).trans rfl; have a2 : w_.cell? ⟨g8, 2, none⟩ = some (.int .i64 0) := (blk_cell BK8.out 2).trans rfl; have a3 : w_.cell? ⟨g8, 3, none⟩ = some (.int .i64 0) := (blk_cell BK8.out 3).trans rfl; have a4 : w_.cell? ⟨g8, 4, none⟩ = some (.slice none 0 0) := (blk_cell BK8.out 4).trans rfl; have af0 := blk_frozen BK8.out 0; have af1 := blk_frozen BK8.out 1; have af2 := blk_frozen BK8.out 2; have af3 := blk_frozen BK8.out 3; have af4 := blk_frozen BK8.out 4)
      | (go_at_call 8; have hN := fund_Clamp.calls 0 fl mo q1 none _ (HG.out.below HB.out) HCL.out; simp only [errW_none] at hN; (with_reducible refine hN.mono ?_); clear hN; rintro e w_ ⟨rfl, hb⟩; have n_ := Aside0.mk (below_step HB.out hb); clear HB; have HB := n_; clear n_; have n_ := Aside0.mk (blk_below BK8.out hb); (try clear a0 af0 a1 af1 a2 af2 a3 af3 a4 af4); clear BK8; have BK8 := n_; clear n_; have a0 : w_.cell? ⟨g8, 0, none⟩ = some (.int .i64 0) := (blk_cell BK8.out 0).trans rfl; have a1 : w_.cell? ⟨g8, 1, none⟩ = some (.int .i64 0) := (blk_cell BK8.out 1).trans rfl; have a2 : w_.cell? ⟨g8, 2, none⟩ = some (.int .i64 0) := (blk_cell BK8.out 2).trans rfl; have a3 : w_.cell? ⟨g8, 3, none⟩ = some (.int .i64 0) := (blk_cell BK8.out 3).trans rfl; have a4 : w_.cell? ⟨g8, 4, none⟩ = some (.slice none 0 0) := (blk_cell BK8.out 4).trans rfl; have af0 := blk_frozen BK8.out 0; have af1 := blk_frozen BK8.out 1; have af2 := blk_frozen BK8.out 2; have af3 := blk_frozen BK8.out 3; have af4 := blk_frozen BK8.out 4; clear hb)
      | (go_at_call 18; have hN := Cover.calls k bt T A3 c3 ns cv sc _ (HG.out.below HB.out) (HT.out.below HB.out) (Kd.C_below HM.out HB.out) HMC.out HCV.out; (with_reducible refine hN.mono ?_); clear hN; rintro e w_ ⟨rfl, hb⟩; have n_ := Aside0.mk (below_step HB.out hb); clear HB; have HB := n_; clear n_; have n_ := Aside0.mk (blk_below BK8.out hb); (try clear a0 af0 a1 af1 a2 af2 a3 af3 a4 af4); clear BK8; have BK8 := n_; clear n_; have a0 : w_.cell? ⟨g8, 0, none⟩ = some (.int .i64 0) := (blk_cell BK8.out 0).trans rfl; have a1 : w_.cell? ⟨g8, 1, none⟩ = some (.int .i64 0) := (blk_cell BK8.out 1).trans rfl; have a2 : w_.cell? ⟨g8, 2, none⟩ = some (.int .i64 0) := (blk_cell BK8.out 2).trans rfl; have a3 : w_.cell? ⟨g8, 3, none⟩ = some (.int .i64 0) := (blk_cell BK8.out 3).trans rfl; have a4 : w_.cell? ⟨g8, 4, none⟩ = some (.slice none 0 0) := (blk_cell BK8.out 4).trans rfl; have af0 := blk_frozen BK8.out 0; have af1 := blk_frozen BK8.out 1; have af2 := blk_frozen BK8.out 2; have af3 := blk_frozen BK8.out 3; have af4 := blk_frozen BK8.out 4; clear hb)
      | (go_at_call 8; have hN := fund_Clamp.calls cv fl mo tg none _ (HG.out.below HB.out) HCT.out; simp only [errW_none] at hN; (with_reducible refine hN.mono ?_); clear hN; rintro e w_ ⟨rfl, hb⟩; have n_ := Aside0.mk (below_step HB.out hb); clear HB; have HB := n_; clear n_; have n_ := Aside0.mk (blk_below BK8.out hb); (try clear a0 af0 a1 af1 a2 af2 a3 af3 a4 af4); clear BK8; have BK8 := n_; clear n_; have a0 : w_.cell? ⟨g8, 0, none⟩ = some (.int .i64 0) := (blk_cell BK8.out 0).trans rfl; have a1 : w_.cell? ⟨g8, 1, none⟩ = some (.int .i64 0) := (blk_cell BK8.out 1).trans rfl; have a2 : w_.cell? ⟨g8, 2, none⟩ = some (.int .i64 0) := (blk_cell BK8.out 2).trans rfl; have a3 : w_.cell? ⟨g8, 3, none⟩ = some (.int .i64 0) := (blk_cell BK8.out 3).trans rfl; have a4 : w_.cell? ⟨g8, 4, none⟩ = some (.slice none 0 0) := (blk_cell BK8.out 4).trans rfl; have af0 := blk_frozen BK8.out 0; have af1 := blk_frozen BK8.out 1; have af2 := blk_frozen BK8.out 2; have af3 := blk_frozen BK8.out 3; have af4 := blk_frozen BK8.out 4; clear hb)
      | ((with_reducible refine gate_dst (N := 16) rfl ?_); refine box_event ?hg (N := 16) ?hd (cs := #[.int .i64 0, .int .i64 0, .int .i64 0, .int .i64 0, .slice none 0 0]) (t := 35) ?hr ?_; (case hd => rfl); (case hg => rfl); (case hr => first | (go_simp; done) | (go_simp; rfl)); intro g16 hg_ w_ hbox hb; have HNE := Aside0.mk (show g8 ≠ g16 from by have := blk_lt BK8.out; omega); have HG16 := Aside0.mk (show w.heap.size ≤ g16 from Nat.le_trans (below_size HB.out) (Nat.le_of_eq hg_.symm)); have n_ := Aside0.mk (below_step HB.out hb); clear HB; have HB := n_; clear n_; have n_ := Aside0.mk (blk_below BK8.out hb); (try clear a0 af0 a1 af1 a2 af2 a3 af3 a4 af4); clear BK8; have BK8 := n_; clear n_; have a0 : w_.cell? ⟨g8, 0, none⟩ = some (.int .i64 0) := (blk_cell BK8.out 0).trans rfl; have a1 : w_.cell? ⟨g8, 1, none⟩ = some (.int .i64 0) := (blk_cell BK8.out 1).trans rfl; have a2 : w_.cell? ⟨g8, 2, none⟩ = some (.int .i64 0) := (blk_cell BK8.out 2).trans rfl; have a3 : w_.cell? ⟨g8, 3, none⟩ = some (.int .i64 0) := (blk_cell BK8.out 3).trans rfl; have a4 : w_.cell? ⟨g8, 4, none⟩ = some (.slice none 0 0) := (blk_cell BK8.out 4).trans rfl; have af0 := blk_frozen BK8.out 0; have af1 := blk_frozen BK8.out 1; have af2 := blk_frozen BK8.out 2; have af3 := blk_frozen BK8.out 3; have af4 := blk_frozen BK8.out 4; have BK16 := Aside0.mk hbox; clear hb hbox hg_; have hn1_ := HNE.out; have hn2_ := HNE.out.symm; have y0 : w_.cell? ⟨g16, 0, none⟩ = some (.int .i64 0) := (blk_cell BK16.out 0).trans rfl; have y1 : w_.cell? ⟨g16, 1, none⟩ = some (.int .i64 0) := (blk_cell BK16.out 1).trans rfl; have y2 : w_.cell? ⟨g16, 2, none⟩ = some (.int .i64 0) := (blk_cell BK16.out 2).trans rfl; have y3 : w_.cell? ⟨g16, 3, none⟩ = some (.int .i64 0) := (blk_cell BK16.out 3).trans rfl; have y4 : w_.cell? ⟨g16, 4, none⟩ = some (.slice none 0 0) := (blk_cell BK16.out 4).trans rfl; have yf0 := blk_frozen BK16.out 0; have yf1 := blk_frozen BK16.out 1; have yf2 := blk_frozen BK16.out 2; have yf3 := blk_frozen BK16.out 3; have yf4 := blk_frozen BK16.out 4))
    have n1_ := Aside0.mk (blk_put (blk_put (blk_put (blk_put (blk_put BK16.out 0 (.int .i64 fl) rfl) 1 (.int .i64 mo) rfl) 2 (.int .i64 tg) rfl) 3 (.int .i64 sc) rfl) 4 (.slice none 0 0) rfl)
    have n2_ := Aside0.mk ((Below.heap_setCell _ ⟨g16, 4, none⟩ (.slice none 0 0) g8 HNE.out).trans ((Below.heap_setCell _ ⟨g16, 3, none⟩ (.int .i64 sc) g8 HNE.out).trans ((Below.heap_setCell _ ⟨g16, 2, none⟩ (.int .i64 tg) g8 HNE.out).trans ((Below.heap_setCell _ ⟨g16, 1, none⟩ (.int .i64 mo) g8 HNE.out).trans ((Below.heap_setCell _ ⟨g16, 0, none⟩ (.int .i64 fl) g8 HNE.out).trans BK8.out)))))
    have n3_ := Aside0.mk (((((HB.out.setCell (p := ⟨g16, 0, none⟩) HG16.out (.int .i64 fl)).setCell (p := ⟨g16, 1, none⟩) HG16.out (.int .i64 mo)).setCell (p := ⟨g16, 2, none⟩) HG16.out (.int .i64 tg)).setCell (p := ⟨g16, 3, none⟩) HG16.out (.int .i64 sc)).setCell (p := ⟨g16, 4, none⟩) HG16.out (.slice none 0 0))
    clear BK16 BK8 HB a0 af0 a1 af1 a2 af2 a3 af3 a4 af4 y0 yf0 y1 yf1 y2 yf2 y3 yf3 y4 yf4
    generalize (((((w_.setCell ⟨g16, 0, none⟩ (.int .i64 fl)).setCell ⟨g16, 1, none⟩ (.int .i64 mo)).setCell ⟨g16, 2, none⟩ (.int .i64 tg)).setCell ⟨g16, 3, none⟩ (.int .i64 sc)).setCell ⟨g16, 4, none⟩ (.slice none 0 0)) = w5 at n1_ n2_ n3_ ⊢
    have BK16 : Aside0 (w5.heap[g16]? = some (.cells #[.int .i64 fl, .int .i64 mo, .int .i64 tg, .int .i64 sc, .slice none 0 0] 35 (0, 0))) := ⟨n1_.out.trans rfl⟩
    have BK8 := n2_
    have HB := n3_
    clear n1_ n2_ n3_
    have a0 : w5.cell? ⟨g8, 0, none⟩ = some (.int .i64 0) := (blk_cell BK8.out 0).trans rfl
    have a1 : w5.cell? ⟨g8, 1, none⟩ = some (.int .i64 0) := (blk_cell BK8.out 1).trans rfl
    have a2 : w5.cell? ⟨g8, 2, none⟩ = some (.int .i64 0) := (blk_cell BK8.out 2).trans rfl
    have a3 : w5.cell? ⟨g8, 3, none⟩ = some (.int .i64 0) := (blk_cell BK8.out 3).trans rfl
    have a4 : w5.cell? ⟨g8, 4, none⟩ = some (.slice none 0 0) := (blk_cell BK8.out 4).trans rfl
    have af0 := blk_frozen BK8.out 0
    have af1 := blk_frozen BK8.out 1
    have af2 := blk_frozen BK8.out 2
    have af3 := blk_frozen BK8.out 3
    have af4 := blk_frozen BK8.out 4
    have y0 : w5.cell? ⟨g16, 0, none⟩ = some (.int .i64 fl) := (blk_cell BK16.out 0).trans rfl
    have y1 : w5.cell? ⟨g16, 1, none⟩ = some (.int .i64 mo) := (blk_cell BK16.out 1).trans rfl
    have y2 : w5.cell? ⟨g16, 2, none⟩ = some (.int .i64 tg) := (blk_cell BK16.out 2).trans rfl
    have y3 : w5.cell? ⟨g16, 3, none⟩ = some (.int .i64 sc) := (blk_cell BK16.out 3).trans rfl
    have y4 : w5.cell? ⟨g16, 4, none⟩ = some (.slice none 0 0) := (blk_cell BK16.out 4).trans rfl
    have yf0 := blk_frozen BK16.out 0
    have yf1 := blk_frozen BK16.out 1
    have yf2 := blk_frozen BK16.out 2
    have yf3 := blk_frozen BK16.out 3
    have yf4 := blk_frozen BK16.out 4
    go_wp2_with (first
      | (go_at_call 24; have hN := slices_Clone_int64_int64.calls A3 c3 ns ns _ (Kd.C_below HM.out HB.out) HMC.out (by unfold slices_Clone_int64_int64.f; rw [if_pos (by have := HN32.out; omega)]); (with_reducible refine hN.mono ?_); clear hN; rintro e w_ ⟨v_, rfl, ho, hb⟩; obtain ⟨A7, c7, rfl, hl_, hC_⟩ := Kd.R_reads ho; have n_ := Aside0.mk (below_step HB.out hb); clear HB; have HB := n_; clear n_; have n_ := Aside0.mk (blk_below BK8.out hb); (try clear a0 af0 a1 af1 a2 af2 a3 af3 a4 af4); clear BK8; have BK8 := n_; clear n_; have a0 : w_.cell? ⟨g8, 0, none⟩ = some (.int .i64 0) := (blk_cell BK8.out 0).trans rfl; have a1 : w_.cell? ⟨g8, 1, none⟩ = some (.int .i64 0) := (blk_cell BK8.out 1).trans rfl; have a2 : w_.cell? ⟨g8, 2, none⟩ = some (.int .i64 0) := (blk_cell BK8.out 2).trans rfl; have a3 : w_.cell? ⟨g8, 3, none⟩ = some (.int .i64 0) := (blk_cell BK8.out 3).trans rfl; have a4 : w_.cell? ⟨g8, 4, none⟩ = some (.slice none 0 0) := (blk_cell BK8.out 4).trans rfl; have af0 := blk_frozen BK8.out 0; have af1 := blk_frozen BK8.out 1; have af2 := blk_frozen BK8.out 2; have af3 := blk_frozen BK8.out 3; have af4 := blk_frozen BK8.out 4; have n_ := Aside0.mk (blk_below BK16.out hb); (try clear y0 yf0 y1 yf1 y2 yf2 y3 yf3 y4 yf4); clear BK16; have BK16 := n_; clear n_; have y0 : w_.cell? ⟨g16, 0, none⟩ = some (.int .i64 fl) := (blk_cell BK16.out 0).trans rfl; have y1 : w_.cell? ⟨g16, 1, none⟩ = some (.int .i64 mo) := (blk_cell BK16.out 1).trans rfl; have y2 : w_.cell? ⟨g16, 2, none⟩ = some (.int .i64 tg) := (blk_cell BK16.out 2).trans rfl; have y3 : w_.cell? ⟨g16, 3, none⟩ = some (.int .i64 sc) := (blk_cell BK16.out 3).trans rfl; have y4 : w_.cell? ⟨g16, 4, none⟩ = some (.slice none 0 0) := (blk_cell BK16.out 4).trans rfl; have yf0 := blk_frozen BK16.out 0; have yf1 := blk_frozen BK16.out 1; have yf2 := blk_frozen BK16.out 2; have yf3 := blk_frozen BK16.out 3; have yf4 := blk_frozen BK16.out 4; have HQ := Aside0.mk hC_; have HQL := Aside0.mk hl_; clear ho hb hl_ hC_)
      | (go_at_call 25; have hN := has_ints ns A3 c3 _ (Kd.C_below HM.out HB.out) (fun n => decide (n > 0)) 26 #[] (pos_answers _) enters26; rw [HAN.out] at hN; (with_reducible refine hN.mono ?_); clear hN; rintro e w_ ⟨rfl, hb⟩; have n_ := Aside0.mk (Kd.C_below HQ.out hb); clear HQ; have HQ := n_; clear n_; have n_ := Aside0.mk (below_step HB.out hb); clear HB; have HB := n_; clear n_; have n_ := Aside0.mk (blk_below BK8.out hb); (try clear a0 af0 a1 af1 a2 af2 a3 af3 a4 af4); clear BK8; have BK8 := n_; clear n_; have a0 : w_.cell? ⟨g8, 0, none⟩ = some (.int .i64 0) := (blk_cell BK8.out 0).trans rfl; have a1 : w_.cell? ⟨g8, 1, none⟩ = some (.int .i64 0) := (blk_cell BK8.out 1).trans rfl; have a2 : w_.cell? ⟨g8, 2, none⟩ = some (.int .i64 0) := (blk_cell BK8.out 2).trans rfl; have a3 : w_.cell? ⟨g8, 3, none⟩ = some (.int .i64 0) := (blk_cell BK8.out 3).trans rfl; have a4 : w_.cell? ⟨g8, 4, none⟩ = some (.slice none 0 0) := (blk_cell BK8.out 4).trans rfl; have af0 := blk_frozen BK8.out 0; have af1 := blk_frozen BK8.out 1; have af2 := blk_frozen BK8.out 2; have af3 := blk_frozen BK8.out 3; have af4 := blk_frozen BK8.out 4; have n_ := Aside0.mk (blk_below BK16.out hb); (try clear y0 yf0 y1 yf1 y2 yf2 y3 yf3 y4 yf4); clear BK16; have BK16 := n_; clear n_; have y0 : w_.cell? ⟨g16, 0, none⟩ = some (.int .i64 fl) := (blk_cell BK16.out 0).trans rfl; have y1 : w_.cell? ⟨g16, 1, none⟩ = some (.int .i64 mo) := (blk_cell BK16.out 1).trans rfl; have y2 : w_.cell? ⟨g16, 2, none⟩ = some (.int .i64 tg) := (blk_cell BK16.out 2).trans rfl; have y3 : w_.cell? ⟨g16, 3, none⟩ = some (.int .i64 sc) := (blk_cell BK16.out 3).trans rfl; have y4 : w_.cell? ⟨g16, 4, none⟩ = some (.slice none 0 0) := (blk_cell BK16.out 4).trans rfl; have yf0 := blk_frozen BK16.out 0; have yf1 := blk_frozen BK16.out 1; have yf2 := blk_frozen BK16.out 2; have yf3 := blk_frozen BK16.out 3; have yf4 := blk_frozen BK16.out 4; clear hb)
      | (go_at_call 27; have hN := share_Split.calls tg A7 c7 ns sh none _ (HG.out.below HB.out) HQ.out HQL.out HSP.out; simp only [errW_none] at hN; (with_reducible refine hN.mono ?_); clear hN; rintro e w_ ⟨v_, rfl, ho, hb⟩; obtain ⟨AS, cS, rfl⟩ := Kd.R_slice ho; have HS := Aside0.mk (Kd.R_lower ho (below_size HB.out)); have n_ := Aside0.mk (below_step HB.out hb); clear HB; have HB := n_; clear n_; have n_ := Aside0.mk (blk_below BK8.out hb); (try clear a0 af0 a1 af1 a2 af2 a3 af3 a4 af4); clear BK8; have BK8 := n_; clear n_; have a0 : w_.cell? ⟨g8, 0, none⟩ = some (.int .i64 0) := (blk_cell BK8.out 0).trans rfl; have a1 : w_.cell? ⟨g8, 1, none⟩ = some (.int .i64 0) := (blk_cell BK8.out 1).trans rfl; have a2 : w_.cell? ⟨g8, 2, none⟩ = some (.int .i64 0) := (blk_cell BK8.out 2).trans rfl; have a3 : w_.cell? ⟨g8, 3, none⟩ = some (.int .i64 0) := (blk_cell BK8.out 3).trans rfl; have a4 : w_.cell? ⟨g8, 4, none⟩ = some (.slice none 0 0) := (blk_cell BK8.out 4).trans rfl; have af0 := blk_frozen BK8.out 0; have af1 := blk_frozen BK8.out 1; have af2 := blk_frozen BK8.out 2; have af3 := blk_frozen BK8.out 3; have af4 := blk_frozen BK8.out 4; have n_ := Aside0.mk (blk_below BK16.out hb); (try clear y0 yf0 y1 yf1 y2 yf2 y3 yf3 y4 yf4); clear BK16; have BK16 := n_; clear n_; have y0 : w_.cell? ⟨g16, 0, none⟩ = some (.int .i64 fl) := (blk_cell BK16.out 0).trans rfl; have y1 : w_.cell? ⟨g16, 1, none⟩ = some (.int .i64 mo) := (blk_cell BK16.out 1).trans rfl; have y2 : w_.cell? ⟨g16, 2, none⟩ = some (.int .i64 tg) := (blk_cell BK16.out 2).trans rfl; have y3 : w_.cell? ⟨g16, 3, none⟩ = some (.int .i64 sc) := (blk_cell BK16.out 3).trans rfl; have y4 : w_.cell? ⟨g16, 4, none⟩ = some (.slice none 0 0) := (blk_cell BK16.out 4).trans rfl; have yf0 := blk_frozen BK16.out 0; have yf1 := blk_frozen BK16.out 1; have yf2 := blk_frozen BK16.out 2; have yf3 := blk_frozen BK16.out 3; have yf4 := blk_frozen BK16.out 4; clear ho hb))
    have HS2 := Aside0.mk (Kd.R_types (Kd.R_types HS.out BK8.out (by decide)) BK16.out (by decide))
    refine bodyPost_ret (results_ct rfl _ _ g8 35 #[.int .i64 fl, .int .i64 mo, .int .i64 tg, .int .i64 sc, .slice AS sh.length cS] (0, 0) _ rfl ((blk_put (blk_put (blk_put (blk_put (blk_put ((Below.heap_setCell _ ⟨g16, 4, none⟩ (.slice AS sh.length cS) g8 HNE.out).trans BK8.out) 0 (.int .i64 fl) rfl) 1 (.int .i64 mo) rfl) 2 (.int .i64 tg) rfl) 3 (.int .i64 sc) rfl) 4 (.slice AS sh.length cS) rfl).trans rfl) Tryd.underlying35 rfl (by kernel_rfl)) rfl ?_
    exact ⟨AS, cS, rfl, Kd.R_mono (Kd.R_far (p := ⟨g8, 4, none⟩) (Kd.R_far (p := ⟨g8, 3, none⟩) (Kd.R_far (p := ⟨g8, 2, none⟩) (Kd.R_far (p := ⟨g8, 1, none⟩) (Kd.R_far (p := ⟨g8, 0, none⟩) (Kd.R_far (p := ⟨g16, 4, none⟩) HS2.out (fun _ hk => hk.2) (.slice AS sh.length cS)) (fun _ hk => hk.1.2) (.int .i64 fl)) (fun _ hk => hk.1.2) (.int .i64 mo)) (fun _ hk => hk.1.2) (.int .i64 tg)) (fun _ hk => hk.1.2) (.int .i64 sc)) (fun _ hk => hk.1.2) (.slice AS sh.length cS)) (fun _ _ => trivial), ((((((HB.out.setCell (p := ⟨g16, 4, none⟩) HG16.out (.slice AS sh.length cS)).setCell (p := ⟨g8, 0, none⟩) HG8.out (.int .i64 fl)).setCell (p := ⟨g8, 1, none⟩) HG8.out (.int .i64 mo)).setCell (p := ⟨g8, 2, none⟩) HG8.out (.int .i64 tg)).setCell (p := ⟨g8, 3, none⟩) HG8.out (.int .i64 sc)).setCell (p := ⟨g8, 4, none⟩) HG8.out (.slice AS sh.length cS))⟩
/-- The chapter's examples. -/
def pledgelaw24_first.f : Option Bool := (sizeF spF (fun _ _ => 0) 5 9 [1, 1]).bind fun z => if z.1 = 5 then pledgeref_SameLongs.f spF z.2.2 [3, 2] else none
set_option maxHeartbeats 8000000 in
set_option maxRecDepth 1000000 in
theorem pledgelaw24_first.calls [Inhabited (Int → Addr)] (r : Bool) (w : World) (hG : GlobOK w) (h : pledgelaw24_first.f = some r) :
    Calls Tryd.prog 7 #[] w fun e w' => e = .returned (.bool r) ∧ Below w.heap.size w w' := by
  have hu1 := Tryd.underlying35
  have hu2 := Tryd.underlying33
  have HG := Aside0.mk hG
  have HB := Aside0.mk (Below.refl w.heap.size w)
  unfold pledgelaw24_first.f at h
  obtain ⟨⟨tg, sc, sh⟩, hsz, h⟩ := Option.bind_eq_some_iff.mp h
  simp only [] at h
  by_cases ht : tg = 5
  rotate_left
  · rw [if_neg ht] at h; exact absurd h (by simp)
  rw [if_pos ht] at h
  subst ht
  have HSZ := Aside0.mk hsz
  have HSL := Aside0.mk h
  clear hG hsz h
  go_enter Tryd.func7, Tryd.ntmps7
  go_upto_region 3 with (first
    | ((with_reducible refine gate_dst (N := 1) rfl ?_); refine box_event ?hg (N := 1) ?hd (cs := #[.map none]) (t := 33) ?hr ?_; (case hd => rfl); (case hg => rfl); (case hr => first | (go_simp; done) | (go_simp; rfl)); intro bt hg_ w_ hbox hb; have n_ := Aside0.mk (below_step HB.out hb); clear HB; have HB := n_; clear n_; have BTB := Aside0.mk hbox; clear hb hbox hg_)
    | ((with_reducible refine gate_dst (N := 5) rfl ?_); (try (refine gate_guard (by rfl) ?_; dsimp only)); refine Kd.R_lit (Kd.int .i64) _ 2 ?hg (N := 5) ?hd (xs := ([1, 1] : List Int)) (inner := [.int .i64 1, .int .i64 1]) (ok := fun _ => True) (okp := fun _ => True) ?hr ?hp (fun _ hk => hk) trivial (Below.refl _ _) (Nat.le_refl _) (by simp) ?_; (case hd => rfl); (case hg => rfl); (case hr => first | (go_simp; done) | (go_simp; rfl)); (case hp => exact (Reps.one (show Kd.M (Kd.int .i64) _ _ _ 1 [.int .i64 1] from rfl) (Reps.one (show Kd.M (Kd.int .i64) _ _ _ 1 [.int .i64 1] from rfl) (Reps.none _ _)))); intro v_ w_ ho hb hg_ hat; obtain ⟨A5, c5, rfl, hl_, hC_⟩ := Kd.R_reads ho; have n_ := Aside0.mk (below_step HB.out hb); clear HB; have HB := n_; clear n_; have n_ := Aside0.mk (blk_below BTB.out hb); clear BTB; have BTB := n_; clear n_; have HL := Aside0.mk hC_; have HLL := Aside0.mk hl_; clear ho hb hg_ hat hl_ hC_)
    | (go_at_call 11; have hN := Size.calls spF bt (fun _ _ => 0) 5 9 A5 c5 [1, 1] 5 sc sh _ (HG.out.below HB.out) (get_nil bt _ BTB.out) HL.out HLL.out HSZ.out; simp only [List.length_cons, List.length_nil, Nat.zero_add] at hN; (with_reducible refine hN.mono ?_); clear hN; rintro e w_ ⟨AS, cS, rfl, ho, hb⟩; have HS := Aside0.mk (Kd.R_lower ho (below_size HB.out)); have n_ := Aside0.mk (below_step HB.out hb); clear HB; have HB := n_; clear n_; clear ho hb)
    | ((with_reducible refine gate_dst (N := 2) rfl ?_); refine box_event ?hg (N := 2) ?hd (cs := #[.int .i64 0, .int .i64 0, .int .i64 0, .int .i64 0, .slice none 0 0]) (t := 35) ?hr ?_; (case hd => rfl); (case hg => rfl); (case hr => first | (go_simp; done) | (go_simp; rfl)); intro g2 hg_ w_ hbox hb; have HG2 := Aside0.mk (show w.heap.size ≤ g2 from Nat.le_trans (below_size HB.out) (Nat.le_of_eq hg_.symm)); have n_ := Aside0.mk (below_step HB.out hb); clear HB; have HB := n_; clear n_; have n_ := Aside0.mk (Kd.R_below HS.out hb); clear HS; have HS := n_; clear n_; have BK2 := Aside0.mk hbox; clear hb hbox hg_; have y0 : w_.cell? ⟨g2, 0, none⟩ = some (.int .i64 0) := (blk_cell BK2.out 0).trans rfl; have y1 : w_.cell? ⟨g2, 1, none⟩ = some (.int .i64 0) := (blk_cell BK2.out 1).trans rfl; have y2 : w_.cell? ⟨g2, 2, none⟩ = some (.int .i64 0) := (blk_cell BK2.out 2).trans rfl; have y3 : w_.cell? ⟨g2, 3, none⟩ = some (.int .i64 0) := (blk_cell BK2.out 3).trans rfl; have y4 : w_.cell? ⟨g2, 4, none⟩ = some (.slice none 0 0) := (blk_cell BK2.out 4).trans rfl; have yf0 := blk_frozen BK2.out 0; have yf1 := blk_frozen BK2.out 1; have yf2 := blk_frozen BK2.out 2; have yf3 := blk_frozen BK2.out 3; have yf4 := blk_frozen BK2.out 4))
  have n1_ := Aside0.mk (blk_put (blk_put (blk_put (blk_put (blk_put BK2.out 0 (.int .i64 5) rfl) 1 (.int .i64 9) rfl) 2 (.int .i64 5) rfl) 3 (.int .i64 sc) rfl) 4 (.slice AS sh.length cS) rfl)
  have n2_ := Aside0.mk (Kd.R_mono (Kd.R_far (p := ⟨g2, 4, none⟩) (Kd.R_far (p := ⟨g2, 3, none⟩) (Kd.R_far (p := ⟨g2, 2, none⟩) (Kd.R_far (p := ⟨g2, 1, none⟩) (Kd.R_far (p := ⟨g2, 0, none⟩) (Kd.R_types HS.out BK2.out (by decide)) (fun _ hk => hk.2) (.int .i64 5)) (fun _ hk => hk.2) (.int .i64 9)) (fun _ hk => hk.2) (.int .i64 5)) (fun _ hk => hk.2) (.int .i64 sc)) (fun _ hk => hk.2) (.slice AS sh.length cS)) (fun _ _ => trivial : ∀ k_, _ → True))
  have n3_ := Aside0.mk (((((HB.out.setCell (p := ⟨g2, 0, none⟩) HG2.out (.int .i64 5)).setCell (p := ⟨g2, 1, none⟩) HG2.out (.int .i64 9)).setCell (p := ⟨g2, 2, none⟩) HG2.out (.int .i64 5)).setCell (p := ⟨g2, 3, none⟩) HG2.out (.int .i64 sc)).setCell (p := ⟨g2, 4, none⟩) HG2.out (.slice AS sh.length cS))
  clear BK2 HB HS y0 yf0 y1 yf1 y2 yf2 y3 yf3 y4 yf4
  generalize (((((w_.setCell ⟨g2, 0, none⟩ (.int .i64 5)).setCell ⟨g2, 1, none⟩ (.int .i64 9)).setCell ⟨g2, 2, none⟩ (.int .i64 5)).setCell ⟨g2, 3, none⟩ (.int .i64 sc)).setCell ⟨g2, 4, none⟩ (.slice AS sh.length cS)) = w5 at n1_ n2_ n3_ ⊢
  have BK2 : Aside0 (w5.heap[g2]? = some (.cells #[.int .i64 5, .int .i64 9, .int .i64 5, .int .i64 sc, .slice AS sh.length cS] 35 (0, 0))) := ⟨n1_.out.trans rfl⟩
  have HS := n2_
  have HB := n3_
  clear n1_ n2_ n3_
  have y0 : w5.cell? ⟨g2, 0, none⟩ = some (.int .i64 5) := (blk_cell BK2.out 0).trans rfl
  have y1 : w5.cell? ⟨g2, 1, none⟩ = some (.int .i64 9) := (blk_cell BK2.out 1).trans rfl
  have y2 : w5.cell? ⟨g2, 2, none⟩ = some (.int .i64 5) := (blk_cell BK2.out 2).trans rfl
  have y3 : w5.cell? ⟨g2, 3, none⟩ = some (.int .i64 sc) := (blk_cell BK2.out 3).trans rfl
  have y4 : w5.cell? ⟨g2, 4, none⟩ = some (.slice AS sh.length cS) := (blk_cell BK2.out 4).trans rfl
  have yf0 := blk_frozen BK2.out 0
  have yf1 := blk_frozen BK2.out 1
  have yf2 := blk_frozen BK2.out 2
  have yf3 := blk_frozen BK2.out 3
  have yf4 := blk_frozen BK2.out 4
  go_wp2_with (first
    | ((with_reducible refine gate_dst (N := 19) rfl ?_); (try (refine gate_guard (by rfl) ?_; dsimp only)); refine Kd.R_lit (Kd.int .i64) _ 2 ?hg (N := 19) ?hd (xs := ([3, 2] : List Int)) (inner := [.int .i64 3, .int .i64 2]) (ok := fun _ => True) (okp := fun _ => True) ?hr ?hp (fun _ hk => hk) trivial (Below.refl _ _) (Nat.le_refl _) (by simp) ?_; (case hd => rfl); (case hg => rfl); (case hr => first | (go_simp; done) | (go_simp; rfl)); (case hp => exact (Reps.one (show Kd.M (Kd.int .i64) _ _ _ 3 [.int .i64 3] from rfl) (Reps.one (show Kd.M (Kd.int .i64) _ _ _ 2 [.int .i64 2] from rfl) (Reps.none _ _)))); intro v_ w_ ho hb hg_ hat; obtain ⟨A6, c6, rfl, hl_, hC_⟩ := Kd.R_reads ho; have n_ := Aside0.mk (below_step HB.out hb); clear HB; have HB := n_; clear n_; have n_ := Aside0.mk (Kd.R_below HS.out hb); clear HS; have HS := n_; clear n_; have HL2 := Aside0.mk hC_; have HL2L := Aside0.mk hl_; clear ho hb hg_ hat hl_ hC_)
    | (go_at_call 19; have hN := pledgeref_SameLongs.calls spF AS cS sh A6 c6 [3, 2] r _ (Kd.R_reads' HS.out).2.2 (Kd.R_reads' HS.out).2.1 HL2.out HL2L.out HSL.out; simp only [List.length_cons, List.length_nil, Nat.zero_add] at hN; (with_reducible refine hN.mono ?_); clear hN; rintro e w_ ⟨rfl, hd⟩; have hb := hd.below; have n_ := Aside0.mk (below_step HB.out hb); clear HB; have HB := n_; clear n_; clear hb hd))
  go_ret
  exact ⟨by first | rfl | simp, HB.out⟩

end Go.Proofs.YtcmdhgcaldpioaaDoor.EFundSizes
