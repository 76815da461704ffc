/- The functions that the law comes to, as plain functions, and for each a proof that the Go code comes to just these answers. Written by a program of this claim. Conditions: each theorem bears its own. -/
import Derived.Test.YtobgpafdebiphaaDoorEDayWeeksx0
namespace Go.Proofs.YtobgpafdebiphaaDoor.EDayWeeks
open Go.RowKit Go.Proofs.YtobgpafdebiphaaDoorW.PrintWords Go.Proofs.YtobgpafdebiphaaDoorW.PrintLast Go.Proofs.YtobgpafdebiphaaDoorW.PrintMore Go.Proofs.YtobgpafdebiphaaDoorW.PrintOpen
attribute [local go_sem] max2_int min2_int max_two min_two max_three min_three max_four min_four   -- for this text's walks alone
set_option linter.unusedVariables false
set_option linter.unusedSimpArgs false

/-! ### day_Leap: function 11 -/
def day_Leap.f (a0 : Int) : Option (Bool) := if (Int.tmod a0 4) = 0 then (if (Int.tmod a0 100) = 0 then (some ((Int.tmod a0 400) == 0)) else (some true)) else (some false)
set_option maxHeartbeats 8000000 in
set_option maxRecDepth 100000 in
theorem day_Leap.calls [Inhabited (Int → Addr)] (a0 : Int) (r : Bool) (w : World) (h : day_Leap.f a0 = some r) :
    Calls Tryd.prog 11 #[.int .i64 a0] w fun e w' => e = .returned (.bool r) ∧ Drawn0 w w' := by
  have H : (if (Int.tmod a0 4) = 0 then (if (Int.tmod a0 100) = 0 then (some ((Int.tmod a0 400) == 0)) else (some true)) else (some false)) = some r := h
  clear h
  by_cases c2 : (Int.tmod a0 4) = 0
  · rw [if_pos c2] at H
    have c2b0 : ((Int.tmod a0 4) == 0) = true := beq_iff_eq.mpr c2
    have c2b1 : ((Int.tmod a0 4) != 0) = false := bne_eq_false_iff_eq.mpr c2
    clear c2
    by_cases c3 : (Int.tmod a0 100) = 0
    · rw [if_pos c3] at H
      have c3b0 : ((Int.tmod a0 100) == 0) = true := beq_iff_eq.mpr c3
      have c3b1 : ((Int.tmod a0 100) != 0) = false := bne_eq_false_iff_eq.mpr c3
      clear c3
      obtain rfl := Option.some.inj H
      go_enter Tryd.func11, Tryd.ntmps11
      go_wp2
      go_ret
      exact ⟨by first | rfl | (simp; done) | (simp [*]; done) | (simp [wrap64]; done) | (simp <;> rfl), by repeat (first | exact Drawn0.refl _ | apply Drawn0.step)⟩
    · rw [if_neg c3] at H
      have c3b0 : ((Int.tmod a0 100) == 0) = false := beq_eq_false_iff_ne.mpr c3
      have c3b1 : ((Int.tmod a0 100) != 0) = true := bne_iff_ne.mpr c3
      obtain rfl := Option.some.inj H
      go_enter Tryd.func11, Tryd.ntmps11
      go_wp2
      go_ret
      exact ⟨by first | rfl | (simp; done) | (simp [*]; done) | (simp [wrap64]; done) | (simp <;> rfl), by repeat (first | exact Drawn0.refl _ | apply Drawn0.step)⟩
  · rw [if_neg c2] at H
    have c2b0 : ((Int.tmod a0 4) == 0) = false := beq_eq_false_iff_ne.mpr c2
    have c2b1 : ((Int.tmod a0 4) != 0) = true := bne_iff_ne.mpr c2
    obtain rfl := Option.some.inj H
    go_enter Tryd.func11, Tryd.ntmps11
    go_wp2
    go_ret
    exact ⟨by first | rfl | (simp; done) | (simp [*]; done) | (simp [wrap64]; done) | (simp <;> rfl), by repeat (first | exact Drawn0.refl _ | apply Drawn0.step)⟩

/-! ### day_days: function 24 -/
def day_days.j0 : Nat → Int → Bool → Option (Int)
  | 0, _, _ => none
  | k + 1, x1, x5 => if x5 = true then (some 29) else (if x1 = 2 then (some 28) else (if x1 = 4 then (some 30) else (if x1 = 6 then (some 30) else (if x1 = 9 then (some 30) else (if x1 = 11 then (some 30) else (some 31))))))
def day_days.f (k : Nat) (a0 : Int) (a1 : Int) : Option (Int) := if a1 = 2 then ((day_Leap.f a0).bind fun t101 => (day_days.j0 k a1 t101)) else (day_days.j0 k a1 false)
theorem day_days.mono_l : ∀ k, (∀ y0 y1, LeO (day_days.j0 k y0 y1) (day_days.j0 (k + 1) y0 y1))
  | 0 => fun _ _ r h => by simp [day_days.j0] at h
  | k + 1 => by
    have ih0 := day_days.mono_l k
    · intro y0 y1
      unfold day_days.j0
      repeat' first
      | (with_reducible exact ih0 _ _)
      | (with_reducible exact LeO.refl _)
      | (with_reducible exact LeO.none _)
      | (with_reducible refine LeO.ite ?_ ?_)
      | (with_reducible refine LeO.bind ?_ (fun _ => ?_))
      | exact ih0 _ _
      | exact LeO.none _
      | refine LeO.ite ?_ ?_
      | refine LeO.bind ?_ (fun _ => ?_)
theorem day_days.mono : ∀ a0 a1 k, LeO (day_days.f k a0 a1) (day_days.f (k + 1) a0 a1) := by
  intro a0 a1 k
  have ih0 := day_days.mono_l k
  unfold day_days.f
  repeat' first
      | (with_reducible exact ih0 _ _)
      | (with_reducible exact LeO.refl _)
      | (with_reducible exact LeO.none _)
      | (with_reducible refine LeO.ite ?_ ?_)
      | (with_reducible refine LeO.bind ?_ (fun _ => ?_))
      | exact ih0 _ _
      | exact LeO.none _
      | refine LeO.ite ?_ ?_
      | refine LeO.bind ?_ (fun _ => ?_)
set_option maxHeartbeats 8000000 in
set_option maxRecDepth 100000 in
theorem day_days.calls [Inhabited (Int → Addr)] (k : Nat) (a0 : Int) (a1 : Int) (r : Int) (w : World) (h : day_days.f k a0 a1 = some r) :
    Calls Tryd.prog 24 #[.int .i64 a0, .int .i64 a1] w fun e w' => e = .returned (.int .i64 r) ∧ Drawn0 w w' := by
  have H : (if a1 = 2 then ((day_Leap.f a0).bind fun t101 => (day_days.j0 k a1 t101)) else (day_days.j0 k a1 false)) = some r := h
  clear h
  have HC3 := Aside0.mk H
  clear H
  go_enter Tryd.func24, Tryd.ntmps24
  go_upto_region 1 with (fail)
  go_cut [5] (fun v5 wc => ∃ (kq : Nat) (x5_2 : Bool), v5 = .bool x5_2 ∧ Aside0 (day_days.j0 kq a1 x5_2 = some r) ∧ Aside0 (kq ≤ k) ∧ Drawn0 w wc)
  case first =>
    have H := HC3.out
    clear HC3
    by_cases c4 : a1 = 2
    · rw [if_pos c4] at H
      have c4b0 : (a1 == 2) = true := beq_iff_eq.mpr c4
      have c4b1 : (a1 != 2) = false := bne_eq_false_iff_eq.mpr c4
      clear c4
      (first | rw [c4b0] | (simp only [i64_w, i32_w]; rw [c4b0]) | skip)
      replace H := Option.bind_eq_some_iff.mp H
      obtain ⟨t101, A50, H⟩ := H
      replace H : (day_days.j0 k a1 t101) = some r := H
      have A5 := Aside0.mk A50
      clear A50
      have H' := Aside0.mk H
      clear H
      go_wp2_with (first | (go_at_call 11; (with_reducible refine (day_Leap.calls a0 t101 _ A5.out).mono ?_); rintro e w' ⟨rfl, ⟨nd, rfl⟩⟩))
      go_meet
      case rel => exact ⟨_, (t101), (by first | rfl | (simp; done) | (simp [*]; done) | (simp [wrap64]; done) | (simp [wrap64]; omega)), H', ⟨by first | omega | exact Nat.le_refl _⟩, by repeat (first | exact Drawn0.refl _ | apply Drawn0.step)⟩
    · rw [if_neg c4] at H
      have c4b0 : (a1 == 2) = false := beq_eq_false_iff_ne.mpr c4
      have c4b1 : (a1 != 2) = true := bne_iff_ne.mpr c4
      (first | rw [c4b0] | (simp only [i64_w, i32_w]; rw [c4b0]) | skip)
      have H' := Aside0.mk H
      clear H
      go_wp2
      go_meet
      case rel => exact ⟨_, (false), (by first | rfl | (simp; done) | (simp [*]; done) | (simp [wrap64]; done) | (simp [wrap64]; omega)), H', ⟨by first | omega | exact Nat.le_refl _⟩, by repeat (first | exact Drawn0.refl _ | apply Drawn0.step)⟩
  case rest =>
    clear HC3
    try clear c2
    try clear p2
    try clear c4
    try clear c4b0
    try clear c4b1
    obtain ⟨kq, x5_2, rfl, HA, HJ2, ⟨mc2, rfl⟩⟩ := hcut
    cases kq with
    | zero => exact absurd HA.out (by simp [day_days.j0])
    | succ kj2 =>
      have H := HA.out
      clear HA
      simp only [day_days.j0] at H
      by_cases c6 : x5_2 = true
      · subst c6
        have H1 : (some 29) = some r := by rw [if_pos rfl] at H; exact H
        clear H
        have H := H1
        clear H1
        obtain rfl := Option.some.inj H
        go_wp2
        go_ret
        exact ⟨by first | rfl | (simp; done) | (simp [*]; done) | (simp [wrap64]; done) | (simp <;> rfl), by repeat (first | exact Drawn0.refl _ | apply Drawn0.step)⟩
      · replace c6 := Bool.eq_false_iff.mpr c6
        subst c6
        have H1 : (if a1 = 2 then (some 28) else (if a1 = 4 then (some 30) else (if a1 = 6 then (some 30) else (if a1 = 9 then (some 30) else (if a1 = 11 then (some 30) else (some 31)))))) = some r := by rw [if_neg (show ¬ (false = true) by decide)] at H; exact H
        clear H
        have H := H1
        clear H1
        by_cases c7 : a1 = 2
        · rw [if_pos c7] at H
          have c7b0 : (a1 == 2) = true := beq_iff_eq.mpr c7
          have c7b1 : (a1 != 2) = false := bne_eq_false_iff_eq.mpr c7
          clear c7
          obtain rfl := Option.some.inj H
          go_wp2
          go_ret
          exact ⟨by first | rfl | (simp; done) | (simp [*]; done) | (simp [wrap64]; done) | (simp <;> rfl), by repeat (first | exact Drawn0.refl _ | apply Drawn0.step)⟩
        · rw [if_neg c7] at H
          have c7b0 : (a1 == 2) = false := beq_eq_false_iff_ne.mpr c7
          have c7b1 : (a1 != 2) = true := bne_iff_ne.mpr c7
          by_cases c8 : a1 = 4
          · rw [if_pos c8] at H
            have c8b0 : (a1 == 4) = true := beq_iff_eq.mpr c8
            have c8b1 : (a1 != 4) = false := bne_eq_false_iff_eq.mpr c8
            clear c8
            obtain rfl := Option.some.inj H
            go_wp2
            go_ret
            exact ⟨by first | rfl | (simp; done) | (simp [*]; done) | (simp [wrap64]; done) | (simp <;> rfl), by repeat (first | exact Drawn0.refl _ | apply Drawn0.step)⟩
          · rw [if_neg c8] at H
            have c8b0 : (a1 == 4) = false := beq_eq_false_iff_ne.mpr c8
            have c8b1 : (a1 != 4) = true := bne_iff_ne.mpr c8
            by_cases c9 : a1 = 6
            · rw [if_pos c9] at H
              have c9b0 : (a1 == 6) = true := beq_iff_eq.mpr c9
              have c9b1 : (a1 != 6) = false := bne_eq_false_iff_eq.mpr c9
              clear c9
              obtain rfl := Option.some.inj H
              go_wp2
              go_ret
              exact ⟨by first | rfl | (simp; done) | (simp [*]; done) | (simp [wrap64]; done) | (simp <;> rfl), by repeat (first | exact Drawn0.refl _ | apply Drawn0.step)⟩
            · rw [if_neg c9] at H
              have c9b0 : (a1 == 6) = false := beq_eq_false_iff_ne.mpr c9
              have c9b1 : (a1 != 6) = true := bne_iff_ne.mpr c9
              by_cases c10 : a1 = 9
              · rw [if_pos c10] at H
                have c10b0 : (a1 == 9) = true := beq_iff_eq.mpr c10
                have c10b1 : (a1 != 9) = false := bne_eq_false_iff_eq.mpr c10
                clear c10
                obtain rfl := Option.some.inj H
                go_wp2
                go_ret
                exact ⟨by first | rfl | (simp; done) | (simp [*]; done) | (simp [wrap64]; done) | (simp <;> rfl), by repeat (first | exact Drawn0.refl _ | apply Drawn0.step)⟩
              · rw [if_neg c10] at H
                have c10b0 : (a1 == 9) = false := beq_eq_false_iff_ne.mpr c10
                have c10b1 : (a1 != 9) = true := bne_iff_ne.mpr c10
                by_cases c11 : a1 = 11
                · rw [if_pos c11] at H
                  have c11b0 : (a1 == 11) = true := beq_iff_eq.mpr c11
                  have c11b1 : (a1 != 11) = false := bne_eq_false_iff_eq.mpr c11
                  clear c11
                  obtain rfl := Option.some.inj H
                  go_wp2
                  go_ret
                  exact ⟨by first | rfl | (simp; done) | (simp [*]; done) | (simp [wrap64]; done) | (simp <;> rfl), by repeat (first | exact Drawn0.refl _ | apply Drawn0.step)⟩
                · rw [if_neg c11] at H
                  have c11b0 : (a1 == 11) = false := beq_eq_false_iff_ne.mpr c11
                  have c11b1 : (a1 != 11) = true := bne_iff_ne.mpr c11
                  obtain rfl := Option.some.inj H
                  go_wp2
                  go_ret
                  exact ⟨by first | rfl | (simp; done) | (simp [*]; done) | (simp [wrap64]; done) | (simp <;> rfl), by repeat (first | exact Drawn0.refl _ | apply Drawn0.step)⟩

/-! ### day_long: function 25 -/
def day_long.f (a0 : Int) : Option (Int) := (day_Leap.f a0).bind fun t102 => (if t102 = true then (some 366) else (some 365))
set_option maxHeartbeats 8000000 in
set_option maxRecDepth 100000 in
theorem day_long.calls [Inhabited (Int → Addr)] (a0 : Int) (r : Int) (w : World) (h : day_long.f a0 = some r) :
    Calls Tryd.prog 25 #[.int .i64 a0] w fun e w' => e = .returned (.int .i64 r) ∧ Drawn0 w w' := by
  have H : ((day_Leap.f a0).bind fun t102 => (if t102 = true then (some 366) else (some 365))) = some r := h
  clear h
  replace H := Option.bind_eq_some_iff.mp H
  obtain ⟨t102, A20, H⟩ := H
  replace H : (if t102 = true then (some 366) else (some 365)) = some r := H
  have A2 := Aside0.mk A20
  clear A20
  by_cases c3 : t102 = true
  · subst c3
    have H1 : (some 366) = some r := by rw [if_pos rfl] at H; exact H
    clear H
    have H := H1
    clear H1
    obtain rfl := Option.some.inj H
    go_enter Tryd.func25, Tryd.ntmps25
    go_wp2_with (first | ((with_reducible refine gate_callee (f := 11) rfl ?_); refine goesL_ (some 4) rfl rfl Tryd.func11 (by kernel_rfl) rfl #[.int .i64 a0] rfl (by (try simp only [List.map_toArray, List.map_cons, List.map_nil]); first | done | rfl | (simp only [List.length_drop, List.length_take]; rfl)) ?_; (with_reducible refine (day_Leap.calls a0 true _ A2.out).mono ?_); rintro e w' ⟨rfl, ⟨nd, rfl⟩⟩; refine ⟨_, rfl, ?_⟩))
    go_ret
    exact ⟨by first | rfl | (simp; done) | (simp [*]; done) | (simp [wrap64]; done) | (simp <;> rfl), by repeat (first | exact Drawn0.refl _ | apply Drawn0.step)⟩
  · replace c3 := Bool.eq_false_iff.mpr c3
    subst c3
    have H1 : (some 365) = some r := by rw [if_neg (show ¬ (false = true) by decide)] at H; exact H
    clear H
    have H := H1
    clear H1
    obtain rfl := Option.some.inj H
    go_enter Tryd.func25, Tryd.ntmps25
    go_wp2_with (first | ((with_reducible refine gate_callee (f := 11) rfl ?_); refine goesL_ (some 4) rfl rfl Tryd.func11 (by kernel_rfl) rfl #[.int .i64 a0] rfl (by (try simp only [List.map_toArray, List.map_cons, List.map_nil]); first | done | rfl | (simp only [List.length_drop, List.length_take]; rfl)) ?_; (with_reducible refine (day_Leap.calls a0 false _ A2.out).mono ?_); rintro e w' ⟨rfl, ⟨nd, rfl⟩⟩; refine ⟨_, rfl, ?_⟩))
    go_ret
    exact ⟨by first | rfl | (simp; done) | (simp [*]; done) | (simp [wrap64]; done) | (simp <;> rfl), by repeat (first | exact Drawn0.refl _ | apply Drawn0.step)⟩

/-! ### day_At: function 17 -/
mutual
def day_At.j0 : Nat → Int → Bool → Option (Int × Int × Int × Option Int)
  | 0, _, _ => none
  | k + 1, x0, x10 => if x10 = true then (some (0, 0, 0, some 103)) else (day_At.l0 k x0 2000 1 1)
def day_At.l0 : Nat → Int → Int → Int → Int → Option (Int × Int × Int × Option Int)
  | 0, _, _, _, _ => none
  | k + 1, x0, x105000, x105001, x105002 => (day_long.f x105000).bind fun t105 => (if x0 ≥ t105 then ((day_long.f x105000).bind fun t106 => (day_At.l0 k (wrap64 (x0 - t106)) (wrap64 (x105000 + 1)) x105001 x105002)) else (day_At.l1 k x0 x105000 x105001 x105002))
def day_At.l1 : Nat → Int → Int → Int → Int → Option (Int × Int × Int × Option Int)
  | 0, _, _, _, _ => none
  | k + 1, x0, x105000, x105001, x105002 => (day_days.f k x105000 x105001).bind fun t107 => (if x0 ≥ t107 then ((day_days.f k x105000 x105001).bind fun t108 => (day_At.l1 k (wrap64 (x0 - t108)) x105000 (wrap64 (x105001 + 1)) x105002)) else (some (x105000, x105001, wrap64 (x105002 + x0), none)))
end
def day_At.f (k : Nat) (a0 : Int) : Option (Int × Int × Int × Option Int) := if a0 < 0 then (day_At.j0 k a0 true) else (day_At.j0 k a0 (decide (a0 > 40000)))
theorem day_At.mono_l : ∀ k, (∀ y0 y1, LeO (day_At.j0 k y0 y1) (day_At.j0 (k + 1) y0 y1)) ∧ (∀ y0 y1 y2 y3, LeO (day_At.l0 k y0 y1 y2 y3) (day_At.l0 (k + 1) y0 y1 y2 y3)) ∧ (∀ y0 y1 y2 y3, LeO (day_At.l1 k y0 y1 y2 y3) (day_At.l1 (k + 1) y0 y1 y2 y3))
  | 0 => ⟨fun _ _ r h => by simp [day_At.j0] at h, fun _ _ _ _ r h => by simp [day_At.l0] at h, fun _ _ _ _ r h => by simp [day_At.l1] at h⟩
  | k + 1 => by
    obtain ⟨ih0, ih1, ih2⟩ := day_At.mono_l k
    refine ⟨?_, ?_, ?_⟩
    · intro y0 y1
      unfold day_At.j0
      repeat' first
      | (with_reducible exact ih0 _ _)
      | (with_reducible exact ih1 _ _ _ _)
      | (with_reducible exact ih2 _ _ _ _)
      | (with_reducible exact day_days.mono _ _ _)
      | (with_reducible exact LeO.refl _)
      | (with_reducible exact LeO.none _)
      | (with_reducible refine LeO.ite ?_ ?_)
      | (with_reducible refine LeO.bind ?_ (fun _ => ?_))
      | exact ih0 _ _
      | exact ih1 _ _ _ _
      | exact ih2 _ _ _ _
      | exact day_days.mono _ _ _
      | exact LeO.none _
      | refine LeO.ite ?_ ?_
      | refine LeO.bind ?_ (fun _ => ?_)
    · intro y0 y1 y2 y3
      unfold day_At.l0
      repeat' first
      | (with_reducible exact ih0 _ _)
      | (with_reducible exact ih1 _ _ _ _)
      | (with_reducible exact ih2 _ _ _ _)
      | (with_reducible exact day_days.mono _ _ _)
      | (with_reducible exact LeO.refl _)
      | (with_reducible exact LeO.none _)
      | (with_reducible refine LeO.ite ?_ ?_)
      | (with_reducible refine LeO.bind ?_ (fun _ => ?_))
      | exact ih0 _ _
      | exact ih1 _ _ _ _
      | exact ih2 _ _ _ _
      | exact day_days.mono _ _ _
      | exact LeO.none _
      | refine LeO.ite ?_ ?_
      | refine LeO.bind ?_ (fun _ => ?_)
    · intro y0 y1 y2 y3
      unfold day_At.l1
      repeat' first
      | (with_reducible exact ih0 _ _)
      | (with_reducible exact ih1 _ _ _ _)
      | (with_reducible exact ih2 _ _ _ _)
      | (with_reducible exact day_days.mono _ _ _)
      | (with_reducible exact LeO.refl _)
      | (with_reducible exact LeO.none _)
      | (with_reducible refine LeO.ite ?_ ?_)
      | (with_reducible refine LeO.bind ?_ (fun _ => ?_))
      | exact ih0 _ _
      | exact ih1 _ _ _ _
      | exact ih2 _ _ _ _
      | exact day_days.mono _ _ _
      | exact LeO.none _
      | refine LeO.ite ?_ ?_
      | refine LeO.bind ?_ (fun _ => ?_)
theorem day_At.mono : ∀ a0 k, LeO (day_At.f k a0) (day_At.f (k + 1) a0) := by
  intro a0 k
  obtain ⟨ih0, ih1, ih2⟩ := day_At.mono_l k
  unfold day_At.f
  repeat' first
      | (with_reducible exact ih0 _ _)
      | (with_reducible exact ih1 _ _ _ _)
      | (with_reducible exact ih2 _ _ _ _)
      | (with_reducible exact day_days.mono _ _ _)
      | (with_reducible exact LeO.refl _)
      | (with_reducible exact LeO.none _)
      | (with_reducible refine LeO.ite ?_ ?_)
      | (with_reducible refine LeO.bind ?_ (fun _ => ?_))
      | exact ih0 _ _
      | exact ih1 _ _ _ _
      | exact ih2 _ _ _ _
      | exact day_days.mono _ _ _
      | exact LeO.none _
      | refine LeO.ite ?_ ?_
      | refine LeO.bind ?_ (fun _ => ?_)
set_option maxHeartbeats 8000000 in
set_option maxRecDepth 100000 in
theorem day_At.calls [Inhabited (Int → Addr)] (k : Nat) (a0 : Int) (r1 : Int) (r2 : Int) (r3 : Int) (r4 : Option Int) (w : World) (hG : GlobOK w) (h : day_At.f k a0 = some (r1, r2, r3, r4)) :
    Calls Tryd.prog 17 #[.int .i64 a0] w fun e w' => e = .returned (.tuple #[.agg #[.int .i64 r1, .int .i64 r2, .int .i64 r3], errW r4]) ∧ Below w.heap.size w w' := by
  have hu32 := Tryd.underlying32
  have HG := Aside0.mk hG
  clear hG
  have HB := Aside0.mk (Below.refl w.heap.size w)
  have H : (if a0 < 0 then (day_At.j0 k a0 true) else (day_At.j0 k a0 (decide (a0 > 40000)))) = some (r1, r2, r3, r4) := h
  clear h
  have HC2 := Aside0.mk H
  clear H
  go_enter Tryd.func17, Tryd.ntmps17
  go_upto_region 1 with (first | ((with_reducible refine gate_dst (N := 2) rfl ?_); refine box_event ?hg (N := 2) ?hd (cs := #[.int .i64 0, .int .i64 0, .int .i64 0]) (t := 32) ?hr ?_; (case hd => rfl); (case hg => rfl); (case hr => first | (go_simp; done) | (go_simp; rfl)); intro gb103 hg w3 hbox hb; have n0_ := Aside0.mk (below_step (by repeat (first | (with_reducible first | exact HB.out | apply below_alloc | apply pw_below_drewN | apply below_drew1) | exact HB.out)) hb); have n1_ := Aside0.mk (hbox); have n2_ := Aside0.mk ((by rw [hg]; exact (below_size (by repeat (first | (with_reducible first | exact HB.out | apply below_alloc | apply pw_below_drewN | apply below_drew1) | exact HB.out))) : w.heap.size ≤ gb103)); have n3_ := Aside0.mk ((by rw [hg]; exact (below_size (by repeat (first | (with_reducible first | exact HB.out | apply below_alloc | apply pw_below_drewN | apply below_drew1) | exact HB.out))) : w.heap.size ≤ gb103)); clear HB; have HB := n0_; have BK103 := n1_; have GW103 := n2_; have GE103 := n3_; clear n0_ n1_ n2_ n3_; clear hb hbox hg))
  (try simp only [Act.put, List.setIfInBounds_toArray, List.set_cons_zero, List.set_cons_succ])
  go_cut [10] (fun v10 wc => ∃ (kq : Nat) (x10_1 : Bool), v10 = .bool x10_1 ∧ Aside0 (day_At.j0 kq a0 x10_1 = some (r1, r2, r3, r4)) ∧ Aside0 (kq ≤ k) ∧ Aside0 (wc.heap[gb103]? = some (.cells #[.int .i64 0, .int .i64 0, .int .i64 0] 32 (0, 0))) ∧ Aside0 (Below w.heap.size w wc))
  case first =>
    have H := HC2.out
    clear HC2
    by_cases c4 : a0 < 0
    · rw [if_pos c4] at H
      have c4b0 : decide (a0 < 0) = true := decide_eq_true c4
      clear c4
      (first | rw [c4b0] | (simp only [i64_w, i32_w]; rw [c4b0]) | skip)
      have H' := Aside0.mk H
      clear H
      go_wp2
      go_meet
      case rel => exact ⟨_, (true), (by first | rfl | (simp; done) | (simp [*]; done) | (simp [wrap64]; done) | (simp [wrap64]; omega)), H', ⟨by first | omega | exact Nat.le_refl _⟩, ⟨by (with_reducible repeat (first | refine blk_drewN ?_ _ | refine blk_drew ?_ | refine blk_alloc ?_ _)); exact BK103.out⟩, ⟨by repeat (first | (with_reducible first | exact HB.out | apply below_alloc | apply pw_below_drewN | apply below_drew1 | refine below_set ?_ GE103.out) | exact HB.out)⟩⟩
    · rw [if_neg c4] at H
      have c4b0 : decide (a0 < 0) = false := decide_eq_false c4
      clear c4
      (first | rw [c4b0] | (simp only [i64_w, i32_w]; rw [c4b0]) | skip)
      have H' := Aside0.mk H
      clear H
      go_wp2
      go_meet
      case rel => exact ⟨_, (decide (a0 > 40000)), (by first | rfl | (simp; done) | (simp [*]; done) | (simp [wrap64]; done) | (simp [wrap64]; omega)), H', ⟨by first | omega | exact Nat.le_refl _⟩, ⟨by (with_reducible repeat (first | refine blk_drewN ?_ _ | refine blk_drew ?_ | refine blk_alloc ?_ _)); exact BK103.out⟩, ⟨by repeat (first | (with_reducible first | exact HB.out | apply below_alloc | apply pw_below_drewN | apply below_drew1 | refine below_set ?_ GE103.out) | exact HB.out)⟩⟩
  case rest =>
    clear HC2
    try clear c1
    try clear p2
    try clear c4
    try clear c4b0
    obtain ⟨kq, x10_1, rfl, HA, HJ1, BK103, HB⟩ := hcut
    cases kq with
    | zero => exact absurd HA.out (by simp [day_At.j0])
    | succ kj1 =>
      have H := HA.out
      clear HA
      simp only [day_At.j0] at H
      by_cases c5 : x10_1 = true
      · subst c5
        have H1 : (some (0, 0, 0, some 103)) = some (r1, r2, r3, r4) := by rw [if_pos rfl] at H; exact H
        clear H
        have H := H1
        clear H1
        simp only [Option.some.injEq, Prod.mk.injEq] at H
        obtain ⟨rfl, rfl, rfl, rfl⟩ := H
        try go_wp2
        have n0_ := Aside0.mk (blk_drew BK103.out)
        have n1_ := Aside0.mk (below_drew1 HB.out)
        clear BK103
        clear HB
        have BK103 := n0_
        have HB := n1_
        clear n0_ n1_
        have hwg7 := GlobOK.at HG.out 103 0 (by simp [globTab])
        have hxg7_0 := hwg7
        replace hxg7_0 := (HB.out.cell (World.block_lt_of_cell? w _ hxg7_0)).trans hxg7_0
        refine start_ (n := 4) (S := fun w' => w'.cell? ⟨0, 0, none⟩ = some (.iface 61 (.pointer (some (adr 103))))) (ds := []) #[false, false, false, false] (by kernel_rfl) rfl rfl (((HB.out.cell (World.block_lt_of_cell? w _ hwg7)).trans hwg7)) (fun hHeld => ?_)
        generalize wc.drew = w6 at BK103 HB hHeld ⊢
        refine pure_ (i := 0) (N := some 11) (v := ?_) (a' := ?_) #[true, false, false, false] rfl rfl (by kernel_rfl) (fun _ _ _ h => h) (Or.inl ⟨by rfl, ?_⟩) ?_ ?_
        rotate_left
        · intro w'
          go_simp
          with_reducible rfl
        rotate_left
        · simp only [Act.put, List.setIfInBounds_toArray, List.set_cons_zero, List.set_cons_succ, i64_w, i32_w]
          rfl
        refine take_ (i := 1) (N := some 12) (v := ?_) (a' := ?_) #[true, true, false, false] rfl rfl (by kernel_rfl) (fun _ _ _ h => h) (Or.inl ⟨by rfl, ?_⟩) hHeld ?_ ?_
        rotate_left
        · intro w' s0
          go_simp
          with_reducible rfl
        rotate_left
        · simp only [Act.put, List.setIfInBounds_toArray, List.set_cons_zero, List.set_cons_succ, i64_w, i32_w]
          rfl
        refine one_ (i := 2) (N := none) #[true, true, true, false] rfl rfl (by kernel_rfl) (by decide) (fun K hK => ?_)
        have hs8 : w6.cell? ⟨gb103, 0, none⟩ = some (.int .i64 0) := (blk_cell BK103.out 0).trans rfl
        have hfs8 := blk_frozen BK103.out 0
        have hs9 : w6.cell? ⟨gb103, 1, none⟩ = some (.int .i64 0) := (blk_cell BK103.out 1).trans rfl
        have hfs9 := blk_frozen BK103.out 1
        have hs10 : w6.cell? ⟨gb103, 2, none⟩ = some (.int .i64 0) := (blk_cell BK103.out 2).trans rfl
        have hfs10 := blk_frozen BK103.out 2
        refine skip_ (w1 := ?_) (by rfl) rfl ?_ ?_
        rotate_left
        · go_simp
          rfl
        refine hK.out _ _ (((cell_far (p := ⟨gb103, _, none⟩) (by first | exact Nat.ne_of_lt (Nat.lt_of_lt_of_le (World.block_lt_of_cell? w _ hwg7) GE103.out) | (rw [add_block]; exact Nat.ne_of_lt (Nat.lt_of_lt_of_le (World.block_lt_of_cell? w _ hwg7) GE103.out)) | (show (Addr.add _ _).block ≠ _; rw [add_block]; exact Nat.ne_of_lt (Nat.lt_of_lt_of_le (World.block_lt_of_cell? w _ hwg7) GE103.out)) | (dsimp only; exact Nat.ne_of_lt (Nat.lt_of_lt_of_le (World.block_lt_of_cell? w _ hwg7) GE103.out))) _).trans (((cell_far (p := ⟨gb103, _, none⟩) (by first | exact Nat.ne_of_lt (Nat.lt_of_lt_of_le (World.block_lt_of_cell? w _ hwg7) GE103.out) | (rw [add_block]; exact Nat.ne_of_lt (Nat.lt_of_lt_of_le (World.block_lt_of_cell? w _ hwg7) GE103.out)) | (show (Addr.add _ _).block ≠ _; rw [add_block]; exact Nat.ne_of_lt (Nat.lt_of_lt_of_le (World.block_lt_of_cell? w _ hwg7) GE103.out)) | (dsimp only; exact Nat.ne_of_lt (Nat.lt_of_lt_of_le (World.block_lt_of_cell? w _ hwg7) GE103.out))) _).trans (((cell_far (p := ⟨gb103, _, none⟩) (by first | exact Nat.ne_of_lt (Nat.lt_of_lt_of_le (World.block_lt_of_cell? w _ hwg7) GE103.out) | (rw [add_block]; exact Nat.ne_of_lt (Nat.lt_of_lt_of_le (World.block_lt_of_cell? w _ hwg7) GE103.out)) | (show (Addr.add _ _).block ≠ _; rw [add_block]; exact Nat.ne_of_lt (Nat.lt_of_lt_of_le (World.block_lt_of_cell? w _ hwg7) GE103.out)) | (dsimp only; exact Nat.ne_of_lt (Nat.lt_of_lt_of_le (World.block_lt_of_cell? w _ hwg7) GE103.out))) _).trans (hHeld))))))) (fun hHeld => ?_)
        clear hK K
        refine pure_ (i := 3) (N := some 3) (v := ?_) (a' := ?_) #[true, true, true, true] rfl rfl (by kernel_rfl) (fun _ _ _ h => h) (Or.inl ⟨by rfl, ?_⟩) ?_ ?_
        rotate_left
        · intro w'
          go_simp
          with_reducible rfl
        rotate_left
        · simp only [Act.put, List.setIfInBounds_toArray, List.set_cons_zero, List.set_cons_succ, i64_w, i32_w]
          rfl
        refine done_ (by kernel_rfl) ?_
        try go_wp2
        refine bodyPost_ret (results_ct rfl _ _ gb103 32 #[.int .i64 0, .int .i64 0, .int .i64 0] (0, 0) _ rfl (by (with_reducible repeat (first | refine blk_drewN ?_ _ | refine blk_drew ?_ | refine blk_alloc ?_ _)); refine blk_put (cs := #[.int .i64 0, .int .i64 0, .int .i64 0]) ?_ 2 _ rfl; (with_reducible repeat (first | refine blk_drewN ?_ _ | refine blk_drew ?_ | refine blk_alloc ?_ _)); refine blk_put (cs := #[.int .i64 0, .int .i64 0, .int .i64 0]) ?_ 1 _ rfl; (with_reducible repeat (first | refine blk_drewN ?_ _ | refine blk_drew ?_ | refine blk_alloc ?_ _)); refine blk_put (cs := #[.int .i64 0, .int .i64 0, .int .i64 0]) ?_ 0 _ rfl; (with_reducible repeat (first | refine blk_drewN ?_ _ | refine blk_drew ?_ | refine blk_alloc ?_ _)); exact BK103.out) Tryd.underlying32 rfl (by kernel_rfl)) rfl ?_
        exact ⟨by first | rfl | (simp [errW_none, errW_some] <;> rfl) | (exfalso; simp_all; done) | (simp [*, errW_none, errW_some] <;> rfl), by repeat (first | (with_reducible first | exact HB.out | apply below_alloc | apply pw_below_drewN | apply below_drew1 | refine below_set ?_ GE103.out) | exact HB.out)⟩
      · replace c5 := Bool.eq_false_iff.mpr c5
        subst c5
        have H1 : (day_At.l0 kj1 a0 2000 1 1) = some (r1, r2, r3, r4) := by rw [if_neg (show ¬ (false = true) by decide)] at H; exact H
        clear H
        have H := H1
        clear H1
        have H' := Aside0.mk H
        clear H
        go_wp2_with (first | ((with_reducible refine gate_dst (N := 4) rfl ?_); refine box_event ?hg (N := 4) ?hd (cs := #[.int .i64 0, .int .i64 0, .int .i64 0]) (t := 32) ?hr ?_; (case hd => rfl); (case hg => rfl); (case hr => first | (go_simp; done) | (go_simp; rfl)); intro gb104 hg w11 hbox hb; have n0_ := Aside0.mk (blk_below (g := gb103) (o := .cells #[.int .i64 0, .int .i64 0, .int .i64 0] 32 (0, 0)) (by (with_reducible repeat (first | refine blk_drewN ?_ _ | refine blk_drew ?_ | refine blk_alloc ?_ _)); exact BK103.out) hb); have n1_ := Aside0.mk (below_step (by repeat (first | (with_reducible first | exact HB.out | apply below_alloc | apply pw_below_drewN | apply below_drew1 | refine below_set ?_ GE103.out) | exact HB.out)) hb); have n2_ := Aside0.mk (hbox); have n3_ := Aside0.mk ((by rw [hg]; exact (below_size (by repeat (first | (with_reducible first | exact HB.out | apply below_alloc | apply pw_below_drewN | apply below_drew1 | refine below_set ?_ GE103.out) | exact HB.out))) : w.heap.size ≤ gb104)); have n4_ := Aside0.mk ((by rw [hg]; exact (below_size (by repeat (first | (with_reducible first | exact HB.out | apply below_alloc | apply pw_below_drewN | apply below_drew1 | refine below_set ?_ GE103.out) | exact HB.out))) : w.heap.size ≤ gb104)); have n5_ := Aside0.mk ((by rw [hg]; exact Nat.ne_of_lt (blk_lt (g := gb103) (o := .cells #[.int .i64 0, .int .i64 0, .int .i64 0] 32 (0, 0)) (by (with_reducible repeat (first | refine blk_drewN ?_ _ | refine blk_drew ?_ | refine blk_alloc ?_ _)); exact BK103.out)) : gb103 ≠ gb104)); have n6_ := Aside0.mk ((by rw [hg]; exact Nat.ne_of_gt (blk_lt (g := gb103) (o := .cells #[.int .i64 0, .int .i64 0, .int .i64 0] 32 (0, 0)) (by (with_reducible repeat (first | refine blk_drewN ?_ _ | refine blk_drew ?_ | refine blk_alloc ?_ _)); exact BK103.out)) : gb104 ≠ gb103)); clear BK103; clear HB; have BK103 := n0_; have HB := n1_; have BK104 := n2_; have GW104 := n3_; have GE104 := n4_; have NB103_104 := n5_; have NB104_103 := n6_; clear n0_ n1_ n2_ n3_ n4_ n5_ n6_; clear hb hbox hg; have hnb12 := NB104_103.out; have hnc12 := NB103_104.out; have hcz13_0 : w11.cell? ⟨gb104, 0, none⟩ = some (.int .i64 0) := (blk_cell BK104.out 0).trans rfl; have hcz13_1 : w11.cell? ⟨gb104, 1, none⟩ = some (.int .i64 0) := (blk_cell BK104.out 1).trans rfl; have hcz13_2 : w11.cell? ⟨gb104, 2, none⟩ = some (.int .i64 0) := (blk_cell BK104.out 2).trans rfl; have hfz13_0 := blk_frozen BK104.out 0; have hfz13_1 := blk_frozen BK104.out 1; have hfz13_2 := blk_frozen BK104.out 2))
        go_loopg [0] kj1 (fun kq v0 w' => ∃ (x0_2 : Int) (x105000_2 : Int), v0 = .int .i64 x0_2 ∧ Aside0 (day_At.l0 kq x0_2 x105000_2 1 1 = some (r1, r2, r3, r4)) ∧ Aside0 (kq ≤ kj1) ∧ Aside0 (w'.heap[gb103]? = some (.cells #[.int .i64 0, .int .i64 0, .int .i64 0] 32 (0, 0))) ∧ Aside0 (w'.heap[gb104]? = some (.cells #[.int .i64 x105000_2, .int .i64 1, .int .i64 1] 32 (0, 0))) ∧ Aside0 (Below w.heap.size w w'))
        case atStart => exact ⟨(a0), (2000), (by first | rfl | (simp; done) | (simp [*]; done) | (simp [wrap64]; done) | (simp [wrap64]; omega)), H', ⟨Nat.le_refl _⟩, ⟨by (with_reducible repeat (first | refine blk_drewN ?_ _ | refine blk_drew ?_ | refine blk_alloc ?_ _)); refine blk_far ?_ NB103_104.out _; (with_reducible repeat (first | refine blk_drewN ?_ _ | refine blk_drew ?_ | refine blk_alloc ?_ _)); refine blk_far ?_ NB103_104.out _; (with_reducible repeat (first | refine blk_drewN ?_ _ | refine blk_drew ?_ | refine blk_alloc ?_ _)); refine blk_far ?_ NB103_104.out _; (with_reducible repeat (first | refine blk_drewN ?_ _ | refine blk_drew ?_ | refine blk_alloc ?_ _)); exact BK103.out⟩, ⟨by (with_reducible repeat (first | refine blk_drewN ?_ _ | refine blk_drew ?_ | refine blk_alloc ?_ _)); refine blk_put (cs := #[.int .i64 2000, .int .i64 1, .int .i64 0]) ?_ 2 _ rfl; (with_reducible repeat (first | refine blk_drewN ?_ _ | refine blk_drew ?_ | refine blk_alloc ?_ _)); refine blk_put (cs := #[.int .i64 2000, .int .i64 0, .int .i64 0]) ?_ 1 _ rfl; (with_reducible repeat (first | refine blk_drewN ?_ _ | refine blk_drew ?_ | refine blk_alloc ?_ _)); refine blk_put (cs := #[.int .i64 0, .int .i64 0, .int .i64 0]) ?_ 0 _ rfl; (with_reducible repeat (first | refine blk_drewN ?_ _ | refine blk_drew ?_ | refine blk_alloc ?_ _)); exact BK104.out⟩, ⟨by repeat (first | (with_reducible first | exact HB.out | apply below_alloc | apply pw_below_drewN | apply below_drew1 | refine below_set ?_ GE103.out | refine below_set ?_ GE104.out) | exact HB.out)⟩⟩
        case round =>
          clear H'
          try clear c1
          try clear p2
          try clear c4
          try clear c4b0
          try clear c5
          try clear c12
          try clear hcz13_0
          try clear hcz13_1
          try clear hcz13_2
          try clear hfz13_0
          try clear hfz13_1
          try clear hfz13_2
          try clear p2
          obtain ⟨x0_2, x105000_2, rfl, HA, HK2, BK103, BK104, HB⟩ := hrel
          cases gk with
          | zero => exact absurd HA.out (by simp [day_At.l0])
          | succ k2 =>
            have H := HA.out
            clear HA
            simp only [day_At.l0] at H
            replace H := Option.bind_eq_some_iff.mp H
            obtain ⟨t105, A140, H⟩ := H
            replace H : (if x0_2 ≥ t105 then ((day_long.f x105000_2).bind fun t106 => (day_At.l0 k2 (wrap64 (x0_2 - t106)) (wrap64 (x105000_2 + 1)) 1 1)) else (day_At.l1 k2 x0_2 x105000_2 1 1)) = some (r1, r2, r3, r4) := H
            have A14 := Aside0.mk A140
            clear A140
            by_cases c15 : x0_2 ≥ t105
            · rw [if_pos c15] at H
              have c15b0 : decide (t105 ≤ x0_2) = true := decide_eq_true c15
              clear c15
              replace H := Option.bind_eq_some_iff.mp H
              obtain ⟨t106, A160, H⟩ := H
              replace H : (day_At.l0 k2 (wrap64 (x0_2 - t106)) (wrap64 (x105000_2 + 1)) 1 1) = some (r1, r2, r3, r4) := H
              have A16 := Aside0.mk A160
              clear A160
              have E_ := Option.some.inj (A14.out.symm.trans A16.out)
              obtain rfl := E_
              have H' := Aside0.mk H
              clear H
              have hnb17 := NB104_103.out
              have hnc17 := NB103_104.out
              have hcz18_0 : wr.cell? ⟨gb104, 0, none⟩ = some (.int .i64 x105000_2) := (blk_cell BK104.out 0).trans rfl
              have hcz18_1 : wr.cell? ⟨gb104, 1, none⟩ = some (.int .i64 1) := (blk_cell BK104.out 1).trans rfl
              have hcz18_2 : wr.cell? ⟨gb104, 2, none⟩ = some (.int .i64 1) := (blk_cell BK104.out 2).trans rfl
              have hfz18_0 := blk_frozen BK104.out 0
              have hfz18_1 := blk_frozen BK104.out 1
              have hfz18_2 := blk_frozen BK104.out 2
              go_wp2_with (first | ((with_reducible refine gate_callee (f := 25) rfl ?_); refine goesL_ (some 17) rfl rfl Tryd.func25 (by kernel_rfl) rfl #[.int .i64 x105000_2] rfl (by (try simp only [List.map_toArray, List.map_cons, List.map_nil]); first | done | rfl | (simp only [List.length_drop, List.length_take]; rfl)) ?_; (with_reducible refine (day_long.calls x105000_2 t105 _ A14.out).mono ?_); rintro e w' ⟨rfl, ⟨nd, rfl⟩⟩; refine ⟨_, rfl, ?_⟩; (try (rw [drewN_self wr]; generalize hq_ : World.drewN wr _ = wr; have n0_ : Aside0 (wr.heap[gb103]? = some (.cells #[.int .i64 0, .int .i64 0, .int .i64 0] 32 (0, 0))) := ⟨by rw [← hq_]; exact (by (with_reducible repeat (first | refine blk_drewN ?_ _ | refine blk_drew ?_ | refine blk_alloc ?_ _)); exact BK103.out)⟩; have n1_ : Aside0 (wr.heap[gb104]? = some (.cells #[.int .i64 x105000_2, .int .i64 1, .int .i64 1] 32 (0, 0))) := ⟨by rw [← hq_]; exact (by (with_reducible repeat (first | refine blk_drewN ?_ _ | refine blk_drew ?_ | refine blk_alloc ?_ _)); exact BK104.out)⟩; have n2_ : Aside0 (Below w.heap.size w wr) := ⟨by rw [← hq_]; exact (by repeat (first | (with_reducible first | exact HB.out | apply below_alloc | apply pw_below_drewN | apply below_drew1 | refine below_set ?_ GE103.out | refine below_set ?_ GE104.out) | exact HB.out))⟩; clear BK103 BK104 HB hq_; have BK103 := n0_; have BK104 := n1_; have HB := n2_; clear n0_ n1_ n2_)); have hcz19_0 : wr.cell? ⟨gb104, 0, none⟩ = some (.int .i64 x105000_2) := (blk_cell BK104.out 0).trans rfl; have hcz19_1 : wr.cell? ⟨gb104, 1, none⟩ = some (.int .i64 1) := (blk_cell BK104.out 1).trans rfl; have hcz19_2 : wr.cell? ⟨gb104, 2, none⟩ = some (.int .i64 1) := (blk_cell BK104.out 2).trans rfl; have hfz19_0 := blk_frozen BK104.out 0; have hfz19_1 := blk_frozen BK104.out 1; have hfz19_2 := blk_frozen BK104.out 2) | ((with_reducible refine gate_callee (f := 25) rfl ?_); refine goesL_ (some 22) rfl rfl Tryd.func25 (by kernel_rfl) rfl #[.int .i64 x105000_2] rfl (by (try simp only [List.map_toArray, List.map_cons, List.map_nil]); first | done | rfl | (simp only [List.length_drop, List.length_take]; rfl)) ?_; (with_reducible refine (day_long.calls x105000_2 t105 _ A16.out).mono ?_); rintro e w' ⟨rfl, ⟨nd, rfl⟩⟩; refine ⟨_, rfl, ?_⟩; (try (rw [drewN_self wr]; generalize hq_ : World.drewN wr _ = wr; have n0_ : Aside0 (wr.heap[gb103]? = some (.cells #[.int .i64 0, .int .i64 0, .int .i64 0] 32 (0, 0))) := ⟨by rw [← hq_]; exact (by (with_reducible repeat (first | refine blk_drewN ?_ _ | refine blk_drew ?_ | refine blk_alloc ?_ _)); exact BK103.out)⟩; have n1_ : Aside0 (wr.heap[gb104]? = some (.cells #[.int .i64 x105000_2, .int .i64 1, .int .i64 1] 32 (0, 0))) := ⟨by rw [← hq_]; exact (by (with_reducible repeat (first | refine blk_drewN ?_ _ | refine blk_drew ?_ | refine blk_alloc ?_ _)); exact BK104.out)⟩; have n2_ : Aside0 (Below w.heap.size w wr) := ⟨by rw [← hq_]; exact (by repeat (first | (with_reducible first | exact HB.out | apply below_alloc | apply pw_below_drewN | apply below_drew1 | refine below_set ?_ GE103.out | refine below_set ?_ GE104.out) | exact HB.out))⟩; clear BK103 BK104 HB hq_; have BK103 := n0_; have BK104 := n1_; have HB := n2_; clear n0_ n1_ n2_)); have hcz20_0 : wr.cell? ⟨gb104, 0, none⟩ = some (.int .i64 x105000_2) := (blk_cell BK104.out 0).trans rfl; have hcz20_1 : wr.cell? ⟨gb104, 1, none⟩ = some (.int .i64 1) := (blk_cell BK104.out 1).trans rfl; have hcz20_2 : wr.cell? ⟨gb104, 2, none⟩ = some (.int .i64 1) := (blk_cell BK104.out 2).trans rfl; have hfz20_0 := blk_frozen BK104.out 0; have hfz20_1 := blk_frozen BK104.out 1; have hfz20_2 := blk_frozen BK104.out 2))
              go_roundg k2
              case measure => have := HJ1.out; have := HK2.out; omega
              case rel => exact ⟨(wrap64 (x0_2 - t105)), (wrap64 (x105000_2 + 1)), (by first | rfl | (simp; done) | (simp [*]; done) | (simp [wrap64]; done) | (simp [wrap64]; omega)), H', ⟨by have := HJ1.out; have := HK2.out; omega⟩, ⟨by (with_reducible repeat (first | refine blk_drewN ?_ _ | refine blk_drew ?_ | refine blk_alloc ?_ _)); refine blk_far ?_ NB103_104.out _; (with_reducible repeat (first | refine blk_drewN ?_ _ | refine blk_drew ?_ | refine blk_alloc ?_ _)); exact BK103.out⟩, ⟨by (with_reducible repeat (first | refine blk_drewN ?_ _ | refine blk_drew ?_ | refine blk_alloc ?_ _)); refine blk_put (cs := #[.int .i64 x105000_2, .int .i64 1, .int .i64 1]) ?_ 0 _ rfl; (with_reducible repeat (first | refine blk_drewN ?_ _ | refine blk_drew ?_ | refine blk_alloc ?_ _)); exact BK104.out⟩, ⟨by repeat (first | (with_reducible first | exact HB.out | apply below_alloc | apply pw_below_drewN | apply below_drew1 | refine below_set ?_ GE103.out | refine below_set ?_ GE104.out) | exact HB.out)⟩⟩
            · rw [if_neg c15] at H
              have c15b0 : decide (t105 ≤ x0_2) = false := decide_eq_false c15
              clear c15
              have H' := Aside0.mk H
              clear H
              have hnb21 := NB104_103.out
              have hnc21 := NB103_104.out
              have hcz22_0 : wr.cell? ⟨gb104, 0, none⟩ = some (.int .i64 x105000_2) := (blk_cell BK104.out 0).trans rfl
              have hcz22_1 : wr.cell? ⟨gb104, 1, none⟩ = some (.int .i64 1) := (blk_cell BK104.out 1).trans rfl
              have hcz22_2 : wr.cell? ⟨gb104, 2, none⟩ = some (.int .i64 1) := (blk_cell BK104.out 2).trans rfl
              have hfz22_0 := blk_frozen BK104.out 0
              have hfz22_1 := blk_frozen BK104.out 1
              have hfz22_2 := blk_frozen BK104.out 2
              go_wp2_with (first | ((with_reducible refine gate_callee (f := 25) rfl ?_); refine goesL_ (some 17) rfl rfl Tryd.func25 (by kernel_rfl) rfl #[.int .i64 x105000_2] rfl (by (try simp only [List.map_toArray, List.map_cons, List.map_nil]); first | done | rfl | (simp only [List.length_drop, List.length_take]; rfl)) ?_; (with_reducible refine (day_long.calls x105000_2 t105 _ A14.out).mono ?_); rintro e w' ⟨rfl, ⟨nd, rfl⟩⟩; refine ⟨_, rfl, ?_⟩))
              go_loopg [0] k2 (fun kq v0 w' => ∃ (x0_3 : Int) (x105001_3 : Int), v0 = .int .i64 x0_3 ∧ Aside0 (day_At.l1 kq x0_3 x105000_2 x105001_3 1 = some (r1, r2, r3, r4)) ∧ Aside0 (kq ≤ k2) ∧ Aside0 (w'.heap[gb103]? = some (.cells #[.int .i64 0, .int .i64 0, .int .i64 0] 32 (0, 0))) ∧ Aside0 (w'.heap[gb104]? = some (.cells #[.int .i64 x105000_2, .int .i64 x105001_3, .int .i64 1] 32 (0, 0))) ∧ Aside0 (Below w.heap.size w w'))
              case atStart => exact ⟨(x0_2), (1), (by first | rfl | (simp; done) | (simp [*]; done) | (simp [wrap64]; done) | (simp [wrap64]; omega)), H', ⟨Nat.le_refl _⟩, ⟨by (with_reducible repeat (first | refine blk_drewN ?_ _ | refine blk_drew ?_ | refine blk_alloc ?_ _)); exact BK103.out⟩, ⟨by (with_reducible repeat (first | refine blk_drewN ?_ _ | refine blk_drew ?_ | refine blk_alloc ?_ _)); exact BK104.out⟩, ⟨by repeat (first | (with_reducible first | exact HB.out | apply below_alloc | apply pw_below_drewN | apply below_drew1 | refine below_set ?_ GE103.out | refine below_set ?_ GE104.out) | exact HB.out)⟩⟩
              case round =>
                clear H'
                try clear c1
                try clear c2
                try clear p2
                try clear c4
                try clear c4b0
                try clear c5
                try clear p6
                try clear c12
                try clear c15
                try clear c15b0
                try clear c17
                try clear c21
                try clear hcz13_0
                try clear hcz13_1
                try clear hcz13_2
                try clear hcz18_0
                try clear hcz18_1
                try clear hcz18_2
                try clear hcz19_0
                try clear hcz19_1
                try clear hcz19_2
                try clear hcz20_0
                try clear hcz20_1
                try clear hcz20_2
                try clear hcz22_0
                try clear hcz22_1
                try clear hcz22_2
                try clear hfz13_0
                try clear hfz13_1
                try clear hfz13_2
                try clear hfz18_0
                try clear hfz18_1
                try clear hfz18_2
                try clear hfz19_0
                try clear hfz19_1
                try clear hfz19_2
                try clear hfz20_0
                try clear hfz20_1
                try clear hfz20_2
                try clear hfz22_0
                try clear hfz22_1
                try clear hfz22_2
                try clear p2
                obtain ⟨x0_3, x105001_3, rfl, HA, HK3, BK103, BK104, HB⟩ := hrel
                cases gk with
                | zero => exact absurd HA.out (by simp [day_At.l1])
                | succ k3 =>
                  have H := HA.out
                  clear HA
                  simp only [day_At.l1] at H
                  replace H := Option.bind_eq_some_iff.mp H
                  obtain ⟨t107, A230, H⟩ := H
                  replace H : (if x0_3 ≥ t107 then ((day_days.f k3 x105000_2 x105001_3).bind fun t108 => (day_At.l1 k3 (wrap64 (x0_3 - t108)) x105000_2 (wrap64 (x105001_3 + 1)) 1)) else (some (x105000_2, x105001_3, wrap64 (1 + x0_3), none))) = some (r1, r2, r3, r4) := H
                  have A23 := Aside0.mk A230
                  clear A230
                  by_cases c24 : x0_3 ≥ t107
                  · rw [if_pos c24] at H
                    have c24b0 : decide (t107 ≤ x0_3) = true := decide_eq_true c24
                    clear c24
                    replace H := Option.bind_eq_some_iff.mp H
                    obtain ⟨t108, A250, H⟩ := H
                    replace H : (day_At.l1 k3 (wrap64 (x0_3 - t108)) x105000_2 (wrap64 (x105001_3 + 1)) 1) = some (r1, r2, r3, r4) := H
                    have A25 := Aside0.mk A250
                    clear A250
                    have E_ := Option.some.inj (A23.out.symm.trans A25.out)
                    obtain rfl := E_
                    have H' := Aside0.mk H
                    clear H
                    have hnb26 := NB104_103.out
                    have hnc26 := NB103_104.out
                    have hcz27_0 : wr.cell? ⟨gb104, 0, none⟩ = some (.int .i64 x105000_2) := (blk_cell BK104.out 0).trans rfl
                    have hcz27_1 : wr.cell? ⟨gb104, 1, none⟩ = some (.int .i64 x105001_3) := (blk_cell BK104.out 1).trans rfl
                    have hcz27_2 : wr.cell? ⟨gb104, 2, none⟩ = some (.int .i64 1) := (blk_cell BK104.out 2).trans rfl
                    have hfz27_0 := blk_frozen BK104.out 0
                    have hfz27_1 := blk_frozen BK104.out 1
                    have hfz27_2 := blk_frozen BK104.out 2
                    go_wp2_with (first | ((with_reducible refine gate_callee (f := 24) rfl ?_); refine goesL_ (some 33) rfl rfl Tryd.func24 (by kernel_rfl) rfl #[.int .i64 x105000_2, .int .i64 x105001_3] rfl (by (try simp only [List.map_toArray, List.map_cons, List.map_nil]); first | done | rfl | (simp only [List.length_drop, List.length_take]; rfl)) ?_; (with_reducible refine (day_days.calls k3 x105000_2 x105001_3 t107 _ A23.out).mono ?_); rintro e w' ⟨rfl, ⟨nd, rfl⟩⟩; refine ⟨_, rfl, ?_⟩; (try (rw [drewN_self wr]; generalize hq_ : World.drewN wr _ = wr; have n0_ : Aside0 (wr.heap[gb103]? = some (.cells #[.int .i64 0, .int .i64 0, .int .i64 0] 32 (0, 0))) := ⟨by rw [← hq_]; exact (by (with_reducible repeat (first | refine blk_drewN ?_ _ | refine blk_drew ?_ | refine blk_alloc ?_ _)); exact BK103.out)⟩; have n1_ : Aside0 (wr.heap[gb104]? = some (.cells #[.int .i64 x105000_2, .int .i64 x105001_3, .int .i64 1] 32 (0, 0))) := ⟨by rw [← hq_]; exact (by (with_reducible repeat (first | refine blk_drewN ?_ _ | refine blk_drew ?_ | refine blk_alloc ?_ _)); exact BK104.out)⟩; have n2_ : Aside0 (Below w.heap.size w wr) := ⟨by rw [← hq_]; exact (by repeat (first | (with_reducible first | exact HB.out | apply below_alloc | apply pw_below_drewN | apply below_drew1 | refine below_set ?_ GE103.out | refine below_set ?_ GE104.out) | exact HB.out))⟩; clear BK103 BK104 HB hq_; have BK103 := n0_; have BK104 := n1_; have HB := n2_; clear n0_ n1_ n2_)); have hcz28_0 : wr.cell? ⟨gb104, 0, none⟩ = some (.int .i64 x105000_2) := (blk_cell BK104.out 0).trans rfl; have hcz28_1 : wr.cell? ⟨gb104, 1, none⟩ = some (.int .i64 x105001_3) := (blk_cell BK104.out 1).trans rfl; have hcz28_2 : wr.cell? ⟨gb104, 2, none⟩ = some (.int .i64 1) := (blk_cell BK104.out 2).trans rfl; have hfz28_0 := blk_frozen BK104.out 0; have hfz28_1 := blk_frozen BK104.out 1; have hfz28_2 := blk_frozen BK104.out 2) | ((with_reducible refine gate_callee (f := 24) rfl ?_); refine goesL_ (some 40) rfl rfl Tryd.func24 (by kernel_rfl) rfl #[.int .i64 x105000_2, .int .i64 x105001_3] rfl (by (try simp only [List.map_toArray, List.map_cons, List.map_nil]); first | done | rfl | (simp only [List.length_drop, List.length_take]; rfl)) ?_; (with_reducible refine (day_days.calls k3 x105000_2 x105001_3 t107 _ A25.out).mono ?_); rintro e w' ⟨rfl, ⟨nd, rfl⟩⟩; refine ⟨_, rfl, ?_⟩; (try (rw [drewN_self wr]; generalize hq_ : World.drewN wr _ = wr; have n0_ : Aside0 (wr.heap[gb103]? = some (.cells #[.int .i64 0, .int .i64 0, .int .i64 0] 32 (0, 0))) := ⟨by rw [← hq_]; exact (by (with_reducible repeat (first | refine blk_drewN ?_ _ | refine blk_drew ?_ | refine blk_alloc ?_ _)); exact BK103.out)⟩; have n1_ : Aside0 (wr.heap[gb104]? = some (.cells #[.int .i64 x105000_2, .int .i64 x105001_3, .int .i64 1] 32 (0, 0))) := ⟨by rw [← hq_]; exact (by (with_reducible repeat (first | refine blk_drewN ?_ _ | refine blk_drew ?_ | refine blk_alloc ?_ _)); exact BK104.out)⟩; have n2_ : Aside0 (Below w.heap.size w wr) := ⟨by rw [← hq_]; exact (by repeat (first | (with_reducible first | exact HB.out | apply below_alloc | apply pw_below_drewN | apply below_drew1 | refine below_set ?_ GE103.out | refine below_set ?_ GE104.out) | exact HB.out))⟩; clear BK103 BK104 HB hq_; have BK103 := n0_; have BK104 := n1_; have HB := n2_; clear n0_ n1_ n2_)); have hcz29_0 : wr.cell? ⟨gb104, 0, none⟩ = some (.int .i64 x105000_2) := (blk_cell BK104.out 0).trans rfl; have hcz29_1 : wr.cell? ⟨gb104, 1, none⟩ = some (.int .i64 x105001_3) := (blk_cell BK104.out 1).trans rfl; have hcz29_2 : wr.cell? ⟨gb104, 2, none⟩ = some (.int .i64 1) := (blk_cell BK104.out 2).trans rfl; have hfz29_0 := blk_frozen BK104.out 0; have hfz29_1 := blk_frozen BK104.out 1; have hfz29_2 := blk_frozen BK104.out 2))
                    go_roundg k3
                    case measure => have := HJ1.out; have := HK2.out; have := HK3.out; omega
                    case rel => exact ⟨(wrap64 (x0_3 - t107)), (wrap64 (x105001_3 + 1)), (by first | rfl | (simp; done) | (simp [*]; done) | (simp [wrap64]; done) | (simp [wrap64]; omega)), H', ⟨by have := HJ1.out; have := HK2.out; have := HK3.out; omega⟩, ⟨by (with_reducible repeat (first | refine blk_drewN ?_ _ | refine blk_drew ?_ | refine blk_alloc ?_ _)); refine blk_far ?_ NB103_104.out _; (with_reducible repeat (first | refine blk_drewN ?_ _ | refine blk_drew ?_ | refine blk_alloc ?_ _)); exact BK103.out⟩, ⟨by (with_reducible repeat (first | refine blk_drewN ?_ _ | refine blk_drew ?_ | refine blk_alloc ?_ _)); refine blk_put (cs := #[.int .i64 x105000_2, .int .i64 x105001_3, .int .i64 1]) ?_ 1 _ rfl; (with_reducible repeat (first | refine blk_drewN ?_ _ | refine blk_drew ?_ | refine blk_alloc ?_ _)); exact BK104.out⟩, ⟨by repeat (first | (with_reducible first | exact HB.out | apply below_alloc | apply pw_below_drewN | apply below_drew1 | refine below_set ?_ GE103.out | refine below_set ?_ GE104.out) | exact HB.out)⟩⟩
                  · rw [if_neg c24] at H
                    have c24b0 : decide (t107 ≤ x0_3) = false := decide_eq_false c24
                    clear c24
                    simp only [Option.some.injEq, Prod.mk.injEq] at H
                    obtain ⟨rfl, rfl, rfl, rfl⟩ := H
                    have hnb30 := NB104_103.out
                    have hnc30 := NB103_104.out
                    have hcz31_0 : wr.cell? ⟨gb104, 0, none⟩ = some (.int .i64 x105000_2) := (blk_cell BK104.out 0).trans rfl
                    have hcz31_1 : wr.cell? ⟨gb104, 1, none⟩ = some (.int .i64 x105001_3) := (blk_cell BK104.out 1).trans rfl
                    have hcz31_2 : wr.cell? ⟨gb104, 2, none⟩ = some (.int .i64 1) := (blk_cell BK104.out 2).trans rfl
                    have hfz31_0 := blk_frozen BK104.out 0
                    have hfz31_1 := blk_frozen BK104.out 1
                    have hfz31_2 := blk_frozen BK104.out 2
                    go_wp2_with (first | ((with_reducible refine gate_callee (f := 24) rfl ?_); refine goesL_ (some 33) rfl rfl Tryd.func24 (by kernel_rfl) rfl #[.int .i64 x105000_2, .int .i64 x105001_3] rfl (by (try simp only [List.map_toArray, List.map_cons, List.map_nil]); first | done | rfl | (simp only [List.length_drop, List.length_take]; rfl)) ?_; (with_reducible refine (day_days.calls k3 x105000_2 x105001_3 t107 _ A23.out).mono ?_); rintro e w' ⟨rfl, ⟨nd, rfl⟩⟩; refine ⟨_, rfl, ?_⟩; (try (rw [drewN_self wr]; generalize hq_ : World.drewN wr _ = wr; have n0_ : Aside0 (wr.heap[gb103]? = some (.cells #[.int .i64 0, .int .i64 0, .int .i64 0] 32 (0, 0))) := ⟨by rw [← hq_]; exact (by (with_reducible repeat (first | refine blk_drewN ?_ _ | refine blk_drew ?_ | refine blk_alloc ?_ _)); exact BK103.out)⟩; have n1_ : Aside0 (wr.heap[gb104]? = some (.cells #[.int .i64 x105000_2, .int .i64 x105001_3, .int .i64 1] 32 (0, 0))) := ⟨by rw [← hq_]; exact (by (with_reducible repeat (first | refine blk_drewN ?_ _ | refine blk_drew ?_ | refine blk_alloc ?_ _)); exact BK104.out)⟩; have n2_ : Aside0 (Below w.heap.size w wr) := ⟨by rw [← hq_]; exact (by repeat (first | (with_reducible first | exact HB.out | apply below_alloc | apply pw_below_drewN | apply below_drew1 | refine below_set ?_ GE103.out | refine below_set ?_ GE104.out) | exact HB.out))⟩; clear BK103 BK104 HB hq_; have BK103 := n0_; have BK104 := n1_; have HB := n2_; clear n0_ n1_ n2_)); have hcz32_0 : wr.cell? ⟨gb104, 0, none⟩ = some (.int .i64 x105000_2) := (blk_cell BK104.out 0).trans rfl; have hcz32_1 : wr.cell? ⟨gb104, 1, none⟩ = some (.int .i64 x105001_3) := (blk_cell BK104.out 1).trans rfl; have hcz32_2 : wr.cell? ⟨gb104, 2, none⟩ = some (.int .i64 1) := (blk_cell BK104.out 2).trans rfl; have hfz32_0 := blk_frozen BK104.out 0; have hfz32_1 := blk_frozen BK104.out 1; have hfz32_2 := blk_frozen BK104.out 2; have hcz33_0 : wr.cell? ⟨gb103, 0, none⟩ = some (.int .i64 0) := (blk_cell BK103.out 0).trans rfl; have hcz33_1 : wr.cell? ⟨gb103, 1, none⟩ = some (.int .i64 0) := (blk_cell BK103.out 1).trans rfl; have hcz33_2 : wr.cell? ⟨gb103, 2, none⟩ = some (.int .i64 0) := (blk_cell BK103.out 2).trans rfl; have hfz33_0 := blk_frozen BK103.out 0; have hfz33_1 := blk_frozen BK103.out 1; have hfz33_2 := blk_frozen BK103.out 2))
                    refine bodyPost_ret (results_ct rfl _ _ gb103 32 #[.int .i64 x105000_2, .int .i64 x105001_3, .int .i64 (wrap64 (1 + x0_3))] (0, 0) _ rfl (by (with_reducible repeat (first | refine blk_drewN ?_ _ | refine blk_drew ?_ | refine blk_alloc ?_ _)); refine blk_put (cs := #[.int .i64 x105000_2, .int .i64 x105001_3, .int .i64 0]) ?_ 2 _ rfl; (with_reducible repeat (first | refine blk_drewN ?_ _ | refine blk_drew ?_ | refine blk_alloc ?_ _)); refine blk_put (cs := #[.int .i64 x105000_2, .int .i64 0, .int .i64 0]) ?_ 1 _ rfl; (with_reducible repeat (first | refine blk_drewN ?_ _ | refine blk_drew ?_ | refine blk_alloc ?_ _)); refine blk_put (cs := #[.int .i64 0, .int .i64 0, .int .i64 0]) ?_ 0 _ rfl; (with_reducible repeat (first | refine blk_drewN ?_ _ | refine blk_drew ?_ | refine blk_alloc ?_ _)); refine blk_far ?_ NB103_104.out _; (with_reducible repeat (first | refine blk_drewN ?_ _ | refine blk_drew ?_ | refine blk_alloc ?_ _)); exact BK103.out) Tryd.underlying32 rfl (by kernel_rfl)) rfl ?_
                    exact ⟨by first | rfl | (simp [errW_none, errW_some] <;> rfl) | (exfalso; simp_all; done) | (simp [*, errW_none, errW_some] <;> rfl), by repeat (first | (with_reducible first | exact HB.out | apply below_alloc | apply pw_below_drewN | apply below_drew1 | refine below_set ?_ GE103.out | refine below_set ?_ GE104.out) | exact HB.out)⟩

/-! ### pledgelaw4_first: function 9 -/
def pledgelaw4_first.f (k : Nat)  : Option (Bool) := (day_At.f k 59).bind fun bt109 => (if bt109.2.2.2.isNone = true then (if bt109.1 = 2000 then (if bt109.2.1 = 2 then (some (bt109.2.2.1 == 29)) else (some false)) else (some false)) else (some false))
theorem pledgelaw4_first.mono : ∀ k, LeO (pledgelaw4_first.f k ) (pledgelaw4_first.f (k + 1) ) := by
  intro  k
  unfold pledgelaw4_first.f
  repeat' first
      | (with_reducible exact day_At.mono _ _)
      | (with_reducible exact LeO.refl _)
      | (with_reducible exact LeO.none _)
      | (with_reducible refine LeO.ite ?_ ?_)
      | (with_reducible refine LeO.bind ?_ (fun _ => ?_))
      | exact day_At.mono _ _
      | exact LeO.none _
      | refine LeO.ite ?_ ?_
      | refine LeO.bind ?_ (fun _ => ?_)
set_option maxHeartbeats 8000000 in
set_option maxRecDepth 100000 in
theorem pledgelaw4_first.calls [Inhabited (Int → Addr)] (k : Nat)  (r : Bool) (w : World) (hG : GlobOK w) (h : pledgelaw4_first.f k  = some r) :
    Calls Tryd.prog 9 #[] w fun e w' => e = .returned (.bool r) ∧ Below w.heap.size w w' := by
  have hu32 := Tryd.underlying32
  have hu28 := Tryd.underlying28
  have hu61 := Tryd.underlying61
  have HG := Aside0.mk hG
  clear hG
  have HB := Aside0.mk (Below.refl w.heap.size w)
  have H : ((day_At.f k 59).bind fun bt109 => (if bt109.2.2.2.isNone = true then (if bt109.1 = 2000 then (if bt109.2.1 = 2 then (some (bt109.2.2.1 == 29)) else (some false)) else (some false)) else (some false))) = some r := h
  clear h
  replace H := Option.bind_eq_some_iff.mp H
  obtain ⟨⟨t109, t110, t111, t112⟩, A10, H⟩ := H
  replace H : (if t112.isNone = true then (if t109 = 2000 then (if t110 = 2 then (some (t111 == 29)) else (some false)) else (some false)) else (some false)) = some r := H
  have A1 := Aside0.mk A10
  clear A10
  rcases t112 with _ | q114
  · have H1 : (if t109 = 2000 then (if t110 = 2 then (some (t111 == 29)) else (some false)) else (some false)) = some r := by rw [if_pos (show (none : Option Int).isNone = true by rfl)] at H; exact H
    clear H
    have H := H1
    clear H1
    try simp only [errW_none, errW_some]
    by_cases c2 : t109 = 2000
    · rw [if_pos c2] at H
      have c2b0 : (t109 == 2000) = true := beq_iff_eq.mpr c2
      have c2b1 : (t109 != 2000) = false := bne_eq_false_iff_eq.mpr c2
      clear c2
      by_cases c3 : t110 = 2
      · rw [if_pos c3] at H
        have c3b0 : (t110 == 2) = true := beq_iff_eq.mpr c3
        have c3b1 : (t110 != 2) = false := bne_eq_false_iff_eq.mpr c3
        clear c3
        obtain rfl := Option.some.inj H
        go_enter Tryd.func9, Tryd.ntmps9
        go_wp2_with (first | ((with_reducible refine gate_callee (f := 17) rfl ?_); refine goesL_ (some 4) rfl rfl Tryd.func17 (by kernel_rfl) rfl #[.int .i64 59] rfl (by (try simp only [List.map_toArray, List.map_cons, List.map_nil]); first | done | rfl | (simp only [List.length_drop, List.length_take]; rfl)) ?_; (with_reducible refine (day_At.calls k 59 t109 t110 t111 none _ ?side1 A1.out).mono ?_); (case side1 => exact GlobOK.below HG.out (by repeat (first | (with_reducible first | exact HB.out | apply below_alloc | apply pw_below_drewN | apply below_drew1) | exact HB.out))); rintro e w4 ⟨rfl, hb⟩; refine ⟨_, rfl, ?_⟩; have n0_ := Aside0.mk (below_step (by repeat (first | (with_reducible first | exact HB.out | apply below_alloc | apply pw_below_drewN | apply below_drew1) | exact HB.out)) hb); clear HB; have HB := n0_; clear n0_; (try clear hb); (try clear hb2); (try clear hk); (try clear hi); (try simp only [errW_none, errW_some])) | ((with_reducible refine gate_dst (N := 1) rfl ?_); refine box_event ?hg (N := 1) ?hd (cs := #[.int .i64 0, .int .i64 0, .int .i64 0]) (t := 32) ?hr ?_; (case hd => rfl); (case hg => rfl); (case hr => first | (go_simp; done) | (go_simp; rfl)); intro gb113 hg w5 hbox hb; have n0_ := Aside0.mk (below_step (by repeat (first | (with_reducible first | exact HB.out | apply below_alloc | apply pw_below_drewN | apply below_drew1) | exact HB.out)) hb); have n1_ := Aside0.mk (hbox); have n2_ := Aside0.mk ((by rw [hg]; exact (below_size (by repeat (first | (with_reducible first | exact HB.out | apply below_alloc | apply pw_below_drewN | apply below_drew1) | exact HB.out))) : w.heap.size ≤ gb113)); have n3_ := Aside0.mk ((by rw [hg]; exact (below_size (by repeat (first | (with_reducible first | exact HB.out | apply below_alloc | apply pw_below_drewN | apply below_drew1) | exact HB.out))) : w.heap.size ≤ gb113)); clear HB; have HB := n0_; have BK113 := n1_; have GW113 := n2_; have GE113 := n3_; clear n0_ n1_ n2_ n3_; clear hb hbox hg; have hcz6_0 : w5.cell? ⟨gb113, 0, none⟩ = some (.int .i64 0) := (blk_cell BK113.out 0).trans rfl; have hcz6_1 : w5.cell? ⟨gb113, 1, none⟩ = some (.int .i64 0) := (blk_cell BK113.out 1).trans rfl; have hcz6_2 : w5.cell? ⟨gb113, 2, none⟩ = some (.int .i64 0) := (blk_cell BK113.out 2).trans rfl; have hfz6_0 := blk_frozen BK113.out 0; have hfz6_1 := blk_frozen BK113.out 1; have hfz6_2 := blk_frozen BK113.out 2))
        go_ret
        exact ⟨by first | rfl | (simp [errW_none, errW_some] <;> rfl) | (exfalso; simp_all; done) | (simp [*, errW_none, errW_some] <;> rfl), by repeat (first | (with_reducible first | exact HB.out | apply below_alloc | apply pw_below_drewN | apply below_drew1 | refine below_set ?_ GE113.out) | exact HB.out)⟩
      · rw [if_neg c3] at H
        have c3b0 : (t110 == 2) = false := beq_eq_false_iff_ne.mpr c3
        have c3b1 : (t110 != 2) = true := bne_iff_ne.mpr c3
        obtain rfl := Option.some.inj H
        go_enter Tryd.func9, Tryd.ntmps9
        go_wp2_with (first | ((with_reducible refine gate_callee (f := 17) rfl ?_); refine goesL_ (some 4) rfl rfl Tryd.func17 (by kernel_rfl) rfl #[.int .i64 59] rfl (by (try simp only [List.map_toArray, List.map_cons, List.map_nil]); first | done | rfl | (simp only [List.length_drop, List.length_take]; rfl)) ?_; (with_reducible refine (day_At.calls k 59 t109 t110 t111 none _ ?side1 A1.out).mono ?_); (case side1 => exact GlobOK.below HG.out (by repeat (first | (with_reducible first | exact HB.out | apply below_alloc | apply pw_below_drewN | apply below_drew1) | exact HB.out))); rintro e w7 ⟨rfl, hb⟩; refine ⟨_, rfl, ?_⟩; have n0_ := Aside0.mk (below_step (by repeat (first | (with_reducible first | exact HB.out | apply below_alloc | apply pw_below_drewN | apply below_drew1) | exact HB.out)) hb); clear HB; have HB := n0_; clear n0_; (try clear hb); (try clear hb2); (try clear hk); (try clear hi); (try simp only [errW_none, errW_some])) | ((with_reducible refine gate_dst (N := 1) rfl ?_); refine box_event ?hg (N := 1) ?hd (cs := #[.int .i64 0, .int .i64 0, .int .i64 0]) (t := 32) ?hr ?_; (case hd => rfl); (case hg => rfl); (case hr => first | (go_simp; done) | (go_simp; rfl)); intro gb113 hg w8 hbox hb; have n0_ := Aside0.mk (below_step (by repeat (first | (with_reducible first | exact HB.out | apply below_alloc | apply pw_below_drewN | apply below_drew1) | exact HB.out)) hb); have n1_ := Aside0.mk (hbox); have n2_ := Aside0.mk ((by rw [hg]; exact (below_size (by repeat (first | (with_reducible first | exact HB.out | apply below_alloc | apply pw_below_drewN | apply below_drew1) | exact HB.out))) : w.heap.size ≤ gb113)); have n3_ := Aside0.mk ((by rw [hg]; exact (below_size (by repeat (first | (with_reducible first | exact HB.out | apply below_alloc | apply pw_below_drewN | apply below_drew1) | exact HB.out))) : w.heap.size ≤ gb113)); clear HB; have HB := n0_; have BK113 := n1_; have GW113 := n2_; have GE113 := n3_; clear n0_ n1_ n2_ n3_; clear hb hbox hg; have hcz9_0 : w8.cell? ⟨gb113, 0, none⟩ = some (.int .i64 0) := (blk_cell BK113.out 0).trans rfl; have hcz9_1 : w8.cell? ⟨gb113, 1, none⟩ = some (.int .i64 0) := (blk_cell BK113.out 1).trans rfl; have hcz9_2 : w8.cell? ⟨gb113, 2, none⟩ = some (.int .i64 0) := (blk_cell BK113.out 2).trans rfl; have hfz9_0 := blk_frozen BK113.out 0; have hfz9_1 := blk_frozen BK113.out 1; have hfz9_2 := blk_frozen BK113.out 2))
        go_ret
        exact ⟨by first | rfl | (simp [errW_none, errW_some] <;> rfl) | (exfalso; simp_all; done) | (simp [*, errW_none, errW_some] <;> rfl), by repeat (first | (with_reducible first | exact HB.out | apply below_alloc | apply pw_below_drewN | apply below_drew1 | refine below_set ?_ GE113.out) | exact HB.out)⟩
    · rw [if_neg c2] at H
      have c2b0 : (t109 == 2000) = false := beq_eq_false_iff_ne.mpr c2
      have c2b1 : (t109 != 2000) = true := bne_iff_ne.mpr c2
      obtain rfl := Option.some.inj H
      go_enter Tryd.func9, Tryd.ntmps9
      go_wp2_with (first | ((with_reducible refine gate_callee (f := 17) rfl ?_); refine goesL_ (some 4) rfl rfl Tryd.func17 (by kernel_rfl) rfl #[.int .i64 59] rfl (by (try simp only [List.map_toArray, List.map_cons, List.map_nil]); first | done | rfl | (simp only [List.length_drop, List.length_take]; rfl)) ?_; (with_reducible refine (day_At.calls k 59 t109 t110 t111 none _ ?side1 A1.out).mono ?_); (case side1 => exact GlobOK.below HG.out (by repeat (first | (with_reducible first | exact HB.out | apply below_alloc | apply pw_below_drewN | apply below_drew1) | exact HB.out))); rintro e w10 ⟨rfl, hb⟩; refine ⟨_, rfl, ?_⟩; have n0_ := Aside0.mk (below_step (by repeat (first | (with_reducible first | exact HB.out | apply below_alloc | apply pw_below_drewN | apply below_drew1) | exact HB.out)) hb); clear HB; have HB := n0_; clear n0_; (try clear hb); (try clear hb2); (try clear hk); (try clear hi); (try simp only [errW_none, errW_some])) | ((with_reducible refine gate_dst (N := 1) rfl ?_); refine box_event ?hg (N := 1) ?hd (cs := #[.int .i64 0, .int .i64 0, .int .i64 0]) (t := 32) ?hr ?_; (case hd => rfl); (case hg => rfl); (case hr => first | (go_simp; done) | (go_simp; rfl)); intro gb113 hg w11 hbox hb; have n0_ := Aside0.mk (below_step (by repeat (first | (with_reducible first | exact HB.out | apply below_alloc | apply pw_below_drewN | apply below_drew1) | exact HB.out)) hb); have n1_ := Aside0.mk (hbox); have n2_ := Aside0.mk ((by rw [hg]; exact (below_size (by repeat (first | (with_reducible first | exact HB.out | apply below_alloc | apply pw_below_drewN | apply below_drew1) | exact HB.out))) : w.heap.size ≤ gb113)); have n3_ := Aside0.mk ((by rw [hg]; exact (below_size (by repeat (first | (with_reducible first | exact HB.out | apply below_alloc | apply pw_below_drewN | apply below_drew1) | exact HB.out))) : w.heap.size ≤ gb113)); clear HB; have HB := n0_; have BK113 := n1_; have GW113 := n2_; have GE113 := n3_; clear n0_ n1_ n2_ n3_; clear hb hbox hg; have hcz12_0 : w11.cell? ⟨gb113, 0, none⟩ = some (.int .i64 0) := (blk_cell BK113.out 0).trans rfl; have hcz12_1 : w11.cell? ⟨gb113, 1, none⟩ = some (.int .i64 0) := (blk_cell BK113.out 1).trans rfl; have hcz12_2 : w11.cell? ⟨gb113, 2, none⟩ = some (.int .i64 0) := (blk_cell BK113.out 2).trans rfl; have hfz12_0 := blk_frozen BK113.out 0; have hfz12_1 := blk_frozen BK113.out 1; have hfz12_2 := blk_frozen BK113.out 2))
      go_ret
      exact ⟨by first | rfl | (simp [errW_none, errW_some] <;> rfl) | (exfalso; simp_all; done) | (simp [*, errW_none, errW_some] <;> rfl), by repeat (first | (with_reducible first | exact HB.out | apply below_alloc | apply pw_below_drewN | apply below_drew1 | refine below_set ?_ GE113.out) | exact HB.out)⟩
  · have H1 : (some false) = some r := by rw [if_neg (show ¬ (some q114).isNone = true by simp)] at H; exact H
    clear H
    have H := H1
    clear H1
    try simp only [errW_none, errW_some]
    obtain rfl := Option.some.inj H
    go_enter Tryd.func9, Tryd.ntmps9
    go_wp2_with (first | ((with_reducible refine gate_callee (f := 17) rfl ?_); refine goesL_ (some 4) rfl rfl Tryd.func17 (by kernel_rfl) rfl #[.int .i64 59] rfl (by (try simp only [List.map_toArray, List.map_cons, List.map_nil]); first | done | rfl | (simp only [List.length_drop, List.length_take]; rfl)) ?_; (with_reducible refine (day_At.calls k 59 t109 t110 t111 (some q114) _ ?side1 A1.out).mono ?_); (case side1 => exact GlobOK.below HG.out (by repeat (first | (with_reducible first | exact HB.out | apply below_alloc | apply pw_below_drewN | apply below_drew1) | exact HB.out))); rintro e w13 ⟨rfl, hb⟩; refine ⟨_, rfl, ?_⟩; have n0_ := Aside0.mk (below_step (by repeat (first | (with_reducible first | exact HB.out | apply below_alloc | apply pw_below_drewN | apply below_drew1) | exact HB.out)) hb); clear HB; have HB := n0_; clear n0_; (try clear hb); (try clear hb2); (try clear hk); (try clear hi); (try simp only [errW_none, errW_some])) | ((with_reducible refine gate_dst (N := 1) rfl ?_); refine box_event ?hg (N := 1) ?hd (cs := #[.int .i64 0, .int .i64 0, .int .i64 0]) (t := 32) ?hr ?_; (case hd => rfl); (case hg => rfl); (case hr => first | (go_simp; done) | (go_simp; rfl)); intro gb113 hg w14 hbox hb; have n0_ := Aside0.mk (below_step (by repeat (first | (with_reducible first | exact HB.out | apply below_alloc | apply pw_below_drewN | apply below_drew1) | exact HB.out)) hb); have n1_ := Aside0.mk (hbox); have n2_ := Aside0.mk ((by rw [hg]; exact (below_size (by repeat (first | (with_reducible first | exact HB.out | apply below_alloc | apply pw_below_drewN | apply below_drew1) | exact HB.out))) : w.heap.size ≤ gb113)); have n3_ := Aside0.mk ((by rw [hg]; exact (below_size (by repeat (first | (with_reducible first | exact HB.out | apply below_alloc | apply pw_below_drewN | apply below_drew1) | exact HB.out))) : w.heap.size ≤ gb113)); clear HB; have HB := n0_; have BK113 := n1_; have GW113 := n2_; have GE113 := n3_; clear n0_ n1_ n2_ n3_; clear hb hbox hg; have hcz15_0 : w14.cell? ⟨gb113, 0, none⟩ = some (.int .i64 0) := (blk_cell BK113.out 0).trans rfl; have hcz15_1 : w14.cell? ⟨gb113, 1, none⟩ = some (.int .i64 0) := (blk_cell BK113.out 1).trans rfl; have hcz15_2 : w14.cell? ⟨gb113, 2, none⟩ = some (.int .i64 0) := (blk_cell BK113.out 2).trans rfl; have hfz15_0 := blk_frozen BK113.out 0; have hfz15_1 := blk_frozen BK113.out 1; have hfz15_2 := blk_frozen BK113.out 2))
    go_ret
    exact ⟨by first | rfl | (simp [errW_none, errW_some] <;> rfl) | (exfalso; simp_all; done) | (simp [*, errW_none, errW_some] <;> rfl), by repeat (first | (with_reducible first | exact HB.out | apply below_alloc | apply pw_below_drewN | apply below_drew1 | refine below_set ?_ GE113.out) | exact HB.out)⟩

/-! ### pledgeworld_Number: function 10 -/
def pledgeworld_Number.f (a0 : Int) (a1 : Int) : Option (Int) := if a1 = 0 then (none) else (if (Int.tmod a0 a1) < 0 then (some (wrap64 ((Int.tmod a0 a1) + a1))) else (some (Int.tmod a0 a1)))
set_option maxHeartbeats 8000000 in
set_option maxRecDepth 100000 in
theorem pledgeworld_Number.calls [Inhabited (Int → Addr)] (a0 : Int) (a1 : Int) (r : Int) (w : World) (h : pledgeworld_Number.f a0 a1 = some r) :
    Calls Tryd.prog 10 #[.int .i64 a0, .int .i64 a1] w fun e w' => e = .returned (.int .i64 r) ∧ Drawn0 w w' := by
  have H : (if a1 = 0 then (none) else (if (Int.tmod a0 a1) < 0 then (some (wrap64 ((Int.tmod a0 a1) + a1))) else (some (Int.tmod a0 a1)))) = some r := h
  clear h
  by_cases c3 : a1 = 0
  · rw [if_pos c3] at H
    exact absurd H (by simp)
  · rw [if_neg c3] at H
    have c3b0 : (a1 == 0) = false := beq_eq_false_iff_ne.mpr c3
    have c3b1 : (a1 != 0) = true := bne_iff_ne.mpr c3
    by_cases c4 : (Int.tmod a0 a1) < 0
    · rw [if_pos c4] at H
      have c4b0 : decide ((Int.tmod a0 a1) < 0) = true := decide_eq_true c4
      clear c4
      obtain rfl := Option.some.inj H
      go_enter Tryd.func10, Tryd.ntmps10
      go_wp2
      go_ret
      exact ⟨by first | rfl | (simp; done) | (simp [*]; done) | (simp [wrap64]; done) | (simp <;> rfl), by repeat (first | exact Drawn0.refl _ | apply Drawn0.step)⟩
    · rw [if_neg c4] at H
      have c4b0 : decide ((Int.tmod a0 a1) < 0) = false := decide_eq_false c4
      clear c4
      obtain rfl := Option.some.inj H
      go_enter Tryd.func10, Tryd.ntmps10
      go_wp2
      go_ret
      exact ⟨by first | rfl | (simp; done) | (simp [*]; done) | (simp [wrap64]; done) | (simp <;> rfl), by repeat (first | exact Drawn0.refl _ | apply Drawn0.step)⟩

/-! ### day_Weekday: function 12 -/
def day_Weekday.f (a0 : Int) : Option (Int) := some (Int.tmod (wrap64 ((Int.tmod (wrap64 ((Int.tmod a0 7) + 7)) 7) + 6)) 7)
set_option maxHeartbeats 8000000 in
set_option maxRecDepth 100000 in
theorem day_Weekday.calls [Inhabited (Int → Addr)] (a0 : Int) (r : Int) (w : World) (h : day_Weekday.f a0 = some r) :
    Calls Tryd.prog 12 #[.int .i64 a0] w fun e w' => e = .returned (.int .i64 r) ∧ Drawn0 w w' := by
  have H : (some (Int.tmod (wrap64 ((Int.tmod (wrap64 ((Int.tmod a0 7) + 7)) 7) + 6)) 7)) = some r := h
  clear h
  obtain rfl := Option.some.inj H
  go_enter Tryd.func12, Tryd.ntmps12
  go_wp2
  go_ret
  exact ⟨by first | rfl | (simp; done) | (simp [*]; done) | (simp [wrap64]; done) | (simp <;> rfl), by repeat (first | exact Drawn0.refl _ | apply Drawn0.step)⟩

/-! ### pledgelaw4_DayWeeks: function 4 -/
/-- Which days of the week have been seen: of i days from one of day c on. -/
def sd (c i j : Nat) : Bool := (List.range i).any fun t => (c + t) % 7 == j
def sdA (c i : Nat) : Array Value := #[.bool (sd c i 0), .bool (sd c i 1), .bool (sd c i 2), .bool (sd c i 3), .bool (sd c i 4), .bool (sd c i 5), .bool (sd c i 6)]
theorem sd_new : ∀ c : Fin 7, ∀ i : Fin 7, sd c.1 i.1 ((c.1 + i.1) % 7) = false := by decide
theorem sd_get (c i j : Nat) (h : j < 7) : (sdA c i)[j]? = some (.bool (sd c i j)) := by
  have : j = 0 ∨ j = 1 ∨ j = 2 ∨ j = 3 ∨ j = 4 ∨ j = 5 ∨ j = 6 := by omega
  rcases this with rfl | rfl | rfl | rfl | rfl | rfl | rfl <;> rfl
theorem sd_succ (c i j : Nat) : sd c (i + 1) j = (sd c i j || (c + i) % 7 == j) := by unfold sd; rw [List.range_succ, List.any_append]; simp
theorem sd_put (c i : Nat) : (sdA c i).setIfInBounds ((c + i) % 7) (.bool true) = sdA c (i + 1) := by
  have h : (c + i) % 7 < 7 := Nat.mod_lt _ (by omega)
  unfold sdA
  simp only [sd_succ]
  have : (c + i) % 7 = 0 ∨ (c + i) % 7 = 1 ∨ (c + i) % 7 = 2 ∨ (c + i) % 7 = 3 ∨ (c + i) % 7 = 4 ∨ (c + i) % 7 = 5 ∨ (c + i) % 7 = 6 := by omega
  rcases this with e | e | e | e | e | e | e <;> rw [e] <;> simp [Array.setIfInBounds]
theorem sd_zero (c : Nat) : sdA c 0 = #[.bool false, .bool false, .bool false, .bool false, .bool false, .bool false, .bool false] := rfl
/-- The world's row of seven bools in block blk; below it nothing has turned. -/
structure ArrW (blk : Nat) (W0 W : World) (cs : Array Value) : Prop where
  hb : Below blk W0 W
  row : W.heap[blk]? = some (.cells cs 25 (0, 0))
theorem ArrW.below {blk : Nat} {W0 W W' : World} {d : Array Value} (h : ArrW blk W0 W d) (hb : Below W.heap.size W W') : ArrW blk W0 W' d :=
  ⟨h.hb.trans (hb.mono (Nat.le_of_lt (blk_lt h.row))), (hb.block blk (blk_lt h.row)).trans h.row⟩
theorem ArrW.put {blk : Nat} {W0 W : World} {d : Array Value} (h : ArrW blk W0 W d) (i : Nat) (v : Value) : ArrW blk W0 (W.setCell ⟨blk, i, none⟩ v) (d.setIfInBounds i v) :=
  ⟨h.hb.setCell (p := ⟨blk, i, none⟩) (Nat.le_refl _) _, blk_put h.row i _ rfl⟩
theorem w64q (x : Int) (h1 : -1000000000 ≤ x) (h2 : x ≤ 1000000000) : wrap64 x = x := by unfold wrap64; omega
theorem wkday_eq (n : Int) : day_Weekday.f n = some ((n + 6) % 7) := by
  unfold day_Weekday.f
  have h1 := Int.tmod_lt_of_pos n (show (0 : Int) < 7 by omega)
  have h2 := Int.lt_tmod_of_pos n (show (0 : Int) < 7 by omega)
  have h3 := Int.tmod_add_mul_tdiv n 7
  rw [w64q (Int.tmod n 7 + 7) (by omega) (by omega), Int.tmod_eq_emod_of_nonneg (show 0 ≤ Int.tmod n 7 + 7 by omega), w64q _ (by omega) (by omega), Int.tmod_eq_emod_of_nonneg (by omega)]
  congr 1
  omega
theorem num_ex (v : Int) : ∃ m, pledgeworld_Number.f v 1000000 = some m ∧ 0 ≤ m ∧ m < 1000000 := by
  unfold pledgeworld_Number.f
  rw [if_neg (by omega)]
  have h1 := Int.tmod_lt_of_pos v (show (0 : Int) < 1000000 by omega)
  have h2 := Int.lt_tmod_of_pos v (show (0 : Int) < 1000000 by omega)
  by_cases h : Int.tmod v 1000000 < 0
  · rw [if_pos h]; exact ⟨_, rfl, by rw [w64q _ (by omega) (by omega)]; omega, by rw [w64q _ (by omega) (by omega)]; omega⟩
  · rw [if_neg h]; exact ⟨_, rfl, by omega, by omega⟩
/-- The law itself: what is left of it is the chapter's examples. -/
def pledgelaw4_DayWeeks.f (k : Nat) (a0 : Int) : Option Bool := (pledgelaw4_first.f k).bind fun t => if t = true then some true else some false
set_option maxHeartbeats 8000000 in
set_option maxRecDepth 1000000 in
theorem pledgelaw4_DayWeeks.calls [Inhabited (Int → Addr)] (k : Nat) (a0 : Int) (r : Bool) (w : World) (hG : GlobOK w) (h : pledgelaw4_DayWeeks.f k a0 = some r) :
    Calls Tryd.prog 4 #[.int .i64 a0] w fun e w' => e = .returned (.bool r) ∧ Below w.heap.size w w' := by
  have hu25 := Tryd.underlying25
  have HG := Aside0.mk hG
  clear hG
  unfold pledgelaw4_DayWeeks.f at h
  obtain ⟨t, h1, h⟩ := Option.bind_eq_some_iff.mp h
  have H1 := Aside0.mk h1
  clear h1
  cases t with
  | false =>
    obtain rfl := Option.some.inj h
    go_enter Tryd.func4, Tryd.ntmps4
    go_wp2_with (go_at_call 9; refine (pledgelaw4_first.calls k false _ HG.out H1.out).mono ?_; rintro e w2 ⟨rfl, hb⟩; have HB := Aside0.mk hb; clear hb)
    go_ret
    exact ⟨rfl, HB.out⟩
  | true =>
    obtain rfl := Option.some.inj h
    obtain ⟨m, hm, m0, m1⟩ := num_ex a0
    have HM := Aside0.mk hm
    clear hm
    obtain ⟨n, hn⟩ : ∃ n, n = m - 500000 := ⟨_, rfl⟩
    have hn0 : -500000 ≤ n := by omega
    have hn1 : n < 500000 := by omega
    have ewn : wrap64 (m - 500000) = n := by rw [hn]; exact w64q _ (by omega) (by omega)
    obtain ⟨c, hc⟩ := Int.eq_ofNat_of_zero_le (show 0 ≤ (n + 6) % 7 by omega)
    have hc7 : c < 7 := by omega
    have HC := Aside0.mk hc
    have HN := Aside0.mk hn
    have HN0 := Aside0.mk hn0
    have HN1 := Aside0.mk hn1
    have HC7 := Aside0.mk hc7
    clear hc hn hn0 hn1 m0 m1 hc7
    go_enter Tryd.func4, Tryd.ntmps4
    go_wp2_with (first | (go_at_call 9; refine (pledgelaw4_first.calls k true _ HG.out H1.out).mono ?_; rintro e w2 ⟨rfl, hb⟩; have HB := Aside0.mk hb; clear hb) | (go_at_call 10; refine (pledgeworld_Number.calls a0 1000000 m _ HM.out).mono ?_; rintro e w3 ⟨rfl, hd⟩; have HD := Aside0.mk hd.below; clear hd))
    simp only [ewn]
    have S := Aside0.mk (show ArrW w3.heap.size w3 (w3.alloc (Obj.cells #[.bool false, .bool false, .bool false, .bool false, .bool false, .bool false, .bool false] 25)) (sdA c 0) from ⟨below_alloc (Below.refl _ _) _, blk_new w3 _⟩)
    generalize w3.alloc (Obj.cells #[.bool false, .bool false, .bool false, .bool false, .bool false, .bool false, .bool false] 25) = w4 at S ⊢
    have HB3 := Aside0.mk (below_step HB.out HD.out)
    have HLE := Aside0.mk (below_size HB3.out)
    clear HB HD h ewn
    generalize hblk : w3.heap.size = blk at S HLE ⊢
    clear hblk
    go_loopg [5, 6] 7 (fun g1 v5 v6 wr => ∃ (i : Nat), v5 = .int .i64 i ∧ Aside0 (i ≤ 7) ∧ Aside0 (7 ≤ g1 + i) ∧ Aside0 (ArrW blk w3 wr (sdA c i)))
    case atStart => exact ⟨0, rfl, ⟨by omega⟩, ⟨by omega⟩, S⟩
    case round =>
      clear S
      obtain ⟨i, rfl, HI, HK, S⟩ := hrel
      by_cases hlt : i < 7
      · have cb0 : decide ((i : Int) < 7) = true := decide_eq_true (by omega)
        have cb1 : ((i : Int) < 7) = True := eq_true (by omega)
        obtain ⟨q, hq⟩ : ∃ q, q = (c + i) % 7 := ⟨_, rfl⟩
        have hq7 : q < 7 := by omega
        have E1 : Aside0 (day_Weekday.f (wrap64 (n + (i : Int))) = some (q : Int)) := ⟨by
          have h1 := HC.out; have h2 := HN0.out; have h3 := HN1.out
          rw [wkday_eq, w64q _ (by omega) (by omega)]; congr 1; omega⟩
        have E2 : Aside0 (day_Weekday.f (wrap64 (wrap64 (n + (i : Int)) + 7)) = some (q : Int)) := ⟨by
          have h1 := HC.out; have h2 := HN0.out; have h3 := HN1.out
          rw [wkday_eq, w64q (n + (i : Int)) (by omega) (by omega), w64q _ (by omega) (by omega)]; congr 1; omega⟩
        have E3 : Aside0 (day_Weekday.f (wrap64 (wrap64 (n + (i : Int)) - 7)) = some (q : Int)) := ⟨by
          have h1 := HC.out; have h2 := HN0.out; have h3 := HN1.out
          rw [wkday_eq, w64q (n + (i : Int)) (by omega) (by omega), w64q _ (by omega) (by omega)]; congr 1; omega⟩
        have cq0 : ((q : Int) < 0) = False := eq_false (by omega)
        have cq1 : decide ((q : Int) < 0) = false := decide_eq_false (by omega)
        have cq2 : ((q : Int) > 6) = False := eq_false (by omega)
        have cq3 : decide ((q : Int) > 6) = false := decide_eq_false (by omega)
        have cq4 : ((q : Int) < 7) = True := eq_true (by omega)
        have cq5 : (6 < (q : Int)) = False := eq_false (by omega)
        have SN : Aside0 ((sdA c i)[q]? = some (.bool false)) := ⟨by rw [sd_get c i q hq7, hq, sd_new ⟨c, HC7.out⟩ ⟨i, hlt⟩]⟩
        have SP : Aside0 ((sdA c i).setIfInBounds q (.bool true) = sdA c (i + 1)) := ⟨by rw [hq]; exact sd_put c i⟩
        have HW : Aside0 (wrap64 ((i : Int) + 1) = ((i + 1 : Nat) : Int)) := ⟨by unfold wrap64; omega⟩
        have HLT := Aside0.mk hlt
        clear hlt hq hq7
        go_wp2_with (go_at_call 12; refine (day_Weekday.calls _ (q : Int) _ (by first | exact E1.out | exact E2.out | exact E3.out)).mono ?_; rintro e w5 ⟨rfl, hd⟩; have S5 := Aside0.mk (S.out.below hd.below); clear S hd; have S := S5; clear S5; have hc5 := (blk_cell S.out.row q).trans SN.out; have hf5 := blk_frozen S.out.row q)
        have S6 := Aside0.mk (S.out.put q (.bool true))
        rw [SP.out] at S6
        clear S
        go_roundg (7 - (i + 1))
        case measure => have := HK.out; have := HLT.out; omega
        case rel => exact ⟨i + 1, by rw [HW.out], ⟨by have := HLT.out; omega⟩, ⟨by have := HLT.out; omega⟩, S6⟩
      · obtain rfl : i = 7 := by have := HI.out; omega
        have cb0 : decide (((7 : Nat) : Int) < 7) = false := decide_eq_false (by omega)
        clear hlt
        go_wp2_with (go_at_call 12; refine (day_Weekday.calls _ 6 _ (by first | rfl | (rw [wkday_eq]; rfl))).mono ?_; rintro e w5 ⟨rfl, hd⟩; have S5 := Aside0.mk (S.out.below hd.below); clear S hd; have S := S5; clear S5)
        go_ret
        exact ⟨rfl, HB3.out.trans (S.out.hb.mono HLE.out)⟩

/-- The pure statement of pledgelaw4_DayWeeks: numbers and lists alone. -/
def pledgelaw4_DayWeeks.Pure : Prop := ∀ (a0 : Int), Rng .i64 a0 → ∃ k, pledgelaw4_DayWeeks.f k a0 = some true

end Go.Proofs.YtobgpafdebiphaaDoor.EDayWeeks
