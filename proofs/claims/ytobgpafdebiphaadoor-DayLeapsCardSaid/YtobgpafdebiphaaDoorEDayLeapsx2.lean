/- The functions that the law comes to, as plain functions, and for each a proof that the Go code comes to just these answers. Written by a program of this claim. Conditions: each theorem bears its own. -/
import Derived.Test.YtobgpafdebiphaaDoorEDayLeapsx0
import Derived.Test.YtobgpafdebiphaaDoorEDayLeapsx1
namespace Go.Proofs.YtobgpafdebiphaaDoor.EDayLeaps
open Go.RowKit Go.Proofs.YtobgpafdebiphaaDoorW.PrintWords Go.Proofs.YtobgpafdebiphaaDoorW.PrintLast Go.Proofs.YtobgpafdebiphaaDoorW.PrintMore Go.Proofs.YtobgpafdebiphaaDoorW.PrintOpen
attribute [local go_sem] max2_int min2_int max_two min_two max_three min_three max_four min_four   -- for this text's walks alone
set_option linter.unusedVariables false
set_option linter.unusedSimpArgs false

/-! ### pledgelaw4_DayLeaps: function 3 -/
def pledgelaw4_DayLeaps.l0 : Nat → Int → Bool → Int → Int → Option (Bool)
  | 0, _, _, _, _ => none
  | k + 1, x0, x3, x4, x5 => if x5 < 400 then ((day_Leap.f (wrap64 (x0 + x5))).bind fun t117 => (if t117 = true then (pledgelaw4_DayLeaps.l0 k x0 x3 (wrap64 (x4 + 1)) (wrap64 (x5 + 1))) else (pledgelaw4_DayLeaps.l0 k x0 x3 x4 (wrap64 (x5 + 1))))) else (if x3 = true then (if x4 = 97 then ((day_Leap.f (wrap64 (400 * (wrap64 ((Int.tmod x0 10) + 1))))).bind fun t118 => (if t118 = true then ((day_Leap.f (wrap64 ((wrap64 (400 * (Int.tmod x0 10))) + 100))).bind fun t119 => (if t119 = true then (some false) else ((day_Leap.f (wrap64 ((wrap64 (4 * (wrap64 ((Int.tmod x0 24) + 1)))) + 400))).bind fun t120 => (if t120 = true then ((day_Leap.f (wrap64 ((wrap64 (2 * x0)) + 1))).bind fun t121 => (some (!t121))) else (some false))))) else (some false))) else (some false)) else (some false))
def pledgelaw4_DayLeaps.f (k : Nat) (a0 : Int) : Option (Bool) := (pledgelaw4_first.f k).bind fun t115 => (if t115 = true then ((pledgeworld_Number.f a0 5000).bind fun t116 => (pledgelaw4_DayLeaps.l0 k t116 t115 0 0)) else (some false))
theorem pledgelaw4_DayLeaps.mono_l : ∀ k, (∀ y0 y1 y2 y3, LeO (pledgelaw4_DayLeaps.l0 k y0 y1 y2 y3) (pledgelaw4_DayLeaps.l0 (k + 1) y0 y1 y2 y3))
  | 0 => fun _ _ _ _ r h => by simp [pledgelaw4_DayLeaps.l0] at h
  | k + 1 => by
    have ih0 := pledgelaw4_DayLeaps.mono_l k
    · intro y0 y1 y2 y3
      unfold pledgelaw4_DayLeaps.l0
      repeat' first
      | (with_reducible exact ih0 _ _ _ _)
      | (with_reducible exact pledgelaw4_first.mono _)
      | (with_reducible exact LeO.refl _)
      | (with_reducible exact LeO.none _)
      | (with_reducible refine LeO.ite ?_ ?_)
      | (with_reducible refine LeO.bind ?_ (fun _ => ?_))
      | exact ih0 _ _ _ _
      | exact pledgelaw4_first.mono _
      | exact LeO.none _
      | refine LeO.ite ?_ ?_
      | refine LeO.bind ?_ (fun _ => ?_)
theorem pledgelaw4_DayLeaps.mono : ∀ a0 k, LeO (pledgelaw4_DayLeaps.f k a0) (pledgelaw4_DayLeaps.f (k + 1) a0) := by
  intro a0 k
  have ih0 := pledgelaw4_DayLeaps.mono_l k
  unfold pledgelaw4_DayLeaps.f
  repeat' first
      | (with_reducible exact ih0 _ _ _ _)
      | (with_reducible exact pledgelaw4_first.mono _)
      | (with_reducible exact LeO.refl _)
      | (with_reducible exact LeO.none _)
      | (with_reducible refine LeO.ite ?_ ?_)
      | (with_reducible refine LeO.bind ?_ (fun _ => ?_))
      | exact ih0 _ _ _ _
      | exact pledgelaw4_first.mono _
      | exact LeO.none _
      | refine LeO.ite ?_ ?_
      | refine LeO.bind ?_ (fun _ => ?_)
set_option maxHeartbeats 8000000 in
set_option maxRecDepth 100000 in
theorem pledgelaw4_DayLeaps.calls [Inhabited (Int → Addr)] (k : Nat) (a0 : Int) (r : Bool) (w : World) (hG : GlobOK w) (h : pledgelaw4_DayLeaps.f k a0 = some r) :
    Calls Tryd.prog 3 #[.int .i64 a0] w fun e w' => e = .returned (.bool r) ∧ Below w.heap.size w w' := by
  have HG := Aside0.mk hG
  clear hG
  have HB := Aside0.mk (Below.refl w.heap.size w)
  have H : ((pledgelaw4_first.f k).bind fun t115 => (if t115 = true then ((pledgeworld_Number.f a0 5000).bind fun t116 => (pledgelaw4_DayLeaps.l0 k t116 t115 0 0)) else (some false))) = some r := h
  clear h
  replace H := Option.bind_eq_some_iff.mp H
  obtain ⟨t115, A20, H⟩ := H
  replace H : (if t115 = true then ((pledgeworld_Number.f a0 5000).bind fun t116 => (pledgelaw4_DayLeaps.l0 k t116 t115 0 0)) else (some false)) = some r := H
  have A2 := Aside0.mk A20
  clear A20
  by_cases c3 : t115 = true
  · subst c3
    have H1 : ((pledgeworld_Number.f a0 5000).bind fun t116 => (pledgelaw4_DayLeaps.l0 k t116 true 0 0)) = some r := by rw [if_pos rfl] at H; exact H
    clear H
    have H := H1
    clear H1
    replace H := Option.bind_eq_some_iff.mp H
    obtain ⟨t116, A40, H⟩ := H
    replace H : (pledgelaw4_DayLeaps.l0 k t116 true 0 0) = some r := H
    have A4 := Aside0.mk A40
    clear A40
    have H' := Aside0.mk H
    clear H
    go_enter Tryd.func3, Tryd.ntmps3
    go_wp2_with (first | ((with_reducible refine gate_callee (f := 9) rfl ?_); refine goesL_ (some 6) rfl rfl Tryd.func9 (by kernel_rfl) rfl #[] rfl (by (try simp only [List.map_toArray, List.map_cons, List.map_nil]); first | done | rfl | (simp only [List.length_drop, List.length_take]; rfl)) ?_; (with_reducible refine (pledgelaw4_first.calls k  true _ ?side1 A2.out).mono ?_); (case side1 => exact GlobOK.below HG.out (by repeat (first | (with_reducible first | exact HB.out | apply below_alloc | apply pw_below_drewN | apply below_drew1) | exact HB.out))); rintro e w5 ⟨rfl, hb⟩; refine ⟨_, rfl, ?_⟩; have n0_ := Aside0.mk (below_step (by repeat (first | (with_reducible first | exact HB.out | apply below_alloc | apply pw_below_drewN | apply below_drew1) | exact HB.out)) hb); clear HB; have HB := n0_; clear n0_; (try clear hb); (try clear hb2); (try clear hk); (try clear hi)) | ((with_reducible refine gate_callee (f := 10) rfl ?_); refine goesL_ (some 10) rfl rfl Tryd.func10 (by kernel_rfl) rfl #[.int .i64 a0, .int .i64 5000] rfl (by (try simp only [List.map_toArray, List.map_cons, List.map_nil]); first | done | rfl | (simp only [List.length_drop, List.length_take]; rfl)) ?_; (with_reducible refine (pledgeworld_Number.calls a0 5000 t116 _ A4.out).mono ?_); rintro e w' ⟨rfl, ⟨nd, rfl⟩⟩; refine ⟨_, rfl, ?_⟩))
    go_loopg [4, 5] k (fun kq v4 v5 w' => ∃ (x4_1 : Int) (x5_1 : Int), v4 = .int .i64 x4_1 ∧ v5 = .int .i64 x5_1 ∧ Aside0 (pledgelaw4_DayLeaps.l0 kq t116 true x4_1 x5_1 = some r) ∧ Aside0 (kq ≤ k) ∧ Aside0 (Below w.heap.size w w'))
    case atStart => exact ⟨(0), (0), (by first | rfl | (simp; done) | (simp [*]; done)), (by first | rfl | (simp; done) | (simp [*]; done)), H', ⟨Nat.le_refl _⟩, ⟨by repeat (first | (with_reducible first | exact HB.out | apply below_alloc | apply pw_below_drewN | apply below_drew1) | exact HB.out)⟩⟩
    case round =>
      clear H'
      try clear c1
      try clear p2
      try clear c3
      obtain ⟨x4_1, x5_1, rfl, rfl, HA, HK1, HB⟩ := hrel
      cases gk with
      | zero => exact absurd HA.out (by simp [pledgelaw4_DayLeaps.l0])
      | succ k1 =>
        have H := HA.out
        clear HA
        simp only [pledgelaw4_DayLeaps.l0] at H
        by_cases c6 : x5_1 < 400
        · rw [if_pos c6] at H
          have c6b0 : decide (x5_1 < 400) = true := decide_eq_true c6
          clear c6
          replace H := Option.bind_eq_some_iff.mp H
          obtain ⟨t117, A70, H⟩ := H
          replace H : (if t117 = true then (pledgelaw4_DayLeaps.l0 k1 t116 true (wrap64 (x4_1 + 1)) (wrap64 (x5_1 + 1))) else (pledgelaw4_DayLeaps.l0 k1 t116 true x4_1 (wrap64 (x5_1 + 1)))) = some r := H
          have A7 := Aside0.mk A70
          clear A70
          by_cases c8 : t117 = true
          · subst c8
            have H1 : (pledgelaw4_DayLeaps.l0 k1 t116 true (wrap64 (x4_1 + 1)) (wrap64 (x5_1 + 1))) = some r := by rw [if_pos rfl] at H; exact H
            clear H
            have H := H1
            clear H1
            have H' := Aside0.mk H
            clear H
            go_wp2_with (first | ((with_reducible refine gate_callee (f := 11) rfl ?_); refine goesL_ (some 18) rfl rfl Tryd.func11 (by kernel_rfl) rfl #[.int .i64 (wrap64 (t116 + x5_1))] rfl (by (try simp only [List.map_toArray, List.map_cons, List.map_nil]); first | done | rfl | (simp only [List.length_drop, List.length_take]; rfl)) ?_; (with_reducible refine (day_Leap.calls (wrap64 (t116 + x5_1)) true _ A7.out).mono ?_); rintro e w' ⟨rfl, ⟨nd, rfl⟩⟩; refine ⟨_, rfl, ?_⟩))
            go_roundg k1
            case measure => have := HK1.out; omega
            case rel => exact ⟨(wrap64 (x4_1 + 1)), (wrap64 (x5_1 + 1)), (by first | rfl | (simp; done) | (simp [*]; done)), (by first | rfl | (simp; done) | (simp [*]; done)), H', ⟨by have := HK1.out; omega⟩, ⟨by repeat (first | (with_reducible first | exact HB.out | apply below_alloc | apply pw_below_drewN | apply below_drew1) | exact HB.out)⟩⟩
          · replace c8 := Bool.eq_false_iff.mpr c8
            subst c8
            have H1 : (pledgelaw4_DayLeaps.l0 k1 t116 true x4_1 (wrap64 (x5_1 + 1))) = some r := by rw [if_neg (show ¬ (false = true) by decide)] at H; exact H
            clear H
            have H := H1
            clear H1
            have H' := Aside0.mk H
            clear H
            go_wp2_with (first | ((with_reducible refine gate_callee (f := 11) rfl ?_); refine goesL_ (some 18) rfl rfl Tryd.func11 (by kernel_rfl) rfl #[.int .i64 (wrap64 (t116 + x5_1))] rfl (by (try simp only [List.map_toArray, List.map_cons, List.map_nil]); first | done | rfl | (simp only [List.length_drop, List.length_take]; rfl)) ?_; (with_reducible refine (day_Leap.calls (wrap64 (t116 + x5_1)) false _ A7.out).mono ?_); rintro e w' ⟨rfl, ⟨nd, rfl⟩⟩; refine ⟨_, rfl, ?_⟩))
            go_roundg k1
            case measure => have := HK1.out; omega
            case rel => exact ⟨(x4_1), (wrap64 (x5_1 + 1)), (by first | rfl | (simp; done) | (simp [*]; done)), (by first | rfl | (simp; done) | (simp [*]; done)), H', ⟨by have := HK1.out; omega⟩, ⟨by repeat (first | (with_reducible first | exact HB.out | apply below_alloc | apply pw_below_drewN | apply below_drew1) | exact HB.out)⟩⟩
        · rw [if_neg c6] at H
          have c6b0 : decide (x5_1 < 400) = false := decide_eq_false c6
          clear c6
          have H1 : (if x4_1 = 97 then ((day_Leap.f (wrap64 (400 * (wrap64 ((Int.tmod t116 10) + 1))))).bind fun t118 => (if t118 = true then ((day_Leap.f (wrap64 ((wrap64 (400 * (Int.tmod t116 10))) + 100))).bind fun t119 => (if t119 = true then (some false) else ((day_Leap.f (wrap64 ((wrap64 (4 * (wrap64 ((Int.tmod t116 24) + 1)))) + 400))).bind fun t120 => (if t120 = true then ((day_Leap.f (wrap64 ((wrap64 (2 * t116)) + 1))).bind fun t121 => (some (!t121))) else (some false))))) else (some false))) else (some false)) = some r := by first | (rw [if_pos rfl] at H; exact H) | (rw [if_pos trivial] at H; exact H)
          clear H
          have H := H1
          clear H1
          by_cases c9 : x4_1 = 97
          · rw [if_pos c9] at H
            have c9b0 : (x4_1 == 97) = true := beq_iff_eq.mpr c9
            have c9b1 : (x4_1 != 97) = false := bne_eq_false_iff_eq.mpr c9
            clear c9
            replace H := Option.bind_eq_some_iff.mp H
            obtain ⟨t118, A100, H⟩ := H
            replace H : (if t118 = true then ((day_Leap.f (wrap64 ((wrap64 (400 * (Int.tmod t116 10))) + 100))).bind fun t119 => (if t119 = true then (some false) else ((day_Leap.f (wrap64 ((wrap64 (4 * (wrap64 ((Int.tmod t116 24) + 1)))) + 400))).bind fun t120 => (if t120 = true then ((day_Leap.f (wrap64 ((wrap64 (2 * t116)) + 1))).bind fun t121 => (some (!t121))) else (some false))))) else (some false)) = some r := H
            have A10 := Aside0.mk A100
            clear A100
            by_cases c11 : t118 = true
            · subst c11
              have H1 : ((day_Leap.f (wrap64 ((wrap64 (400 * (Int.tmod t116 10))) + 100))).bind fun t119 => (if t119 = true then (some false) else ((day_Leap.f (wrap64 ((wrap64 (4 * (wrap64 ((Int.tmod t116 24) + 1)))) + 400))).bind fun t120 => (if t120 = true then ((day_Leap.f (wrap64 ((wrap64 (2 * t116)) + 1))).bind fun t121 => (some (!t121))) else (some false))))) = some r := by rw [if_pos rfl] at H; exact H
              clear H
              have H := H1
              clear H1
              replace H := Option.bind_eq_some_iff.mp H
              obtain ⟨t119, A120, H⟩ := H
              replace H : (if t119 = true then (some false) else ((day_Leap.f (wrap64 ((wrap64 (4 * (wrap64 ((Int.tmod t116 24) + 1)))) + 400))).bind fun t120 => (if t120 = true then ((day_Leap.f (wrap64 ((wrap64 (2 * t116)) + 1))).bind fun t121 => (some (!t121))) else (some false)))) = some r := H
              have A12 := Aside0.mk A120
              clear A120
              by_cases c13 : t119 = true
              · subst c13
                have H1 : (some false) = some r := by rw [if_pos rfl] at H; exact H
                clear H
                have H := H1
                clear H1
                obtain rfl := Option.some.inj H
                go_wp2_with (first | (go_at_call 11; (with_reducible refine (day_Leap.calls (wrap64 (400 * (wrap64 ((Int.tmod t116 10) + 1)))) true _ A10.out).mono ?_); rintro e w' ⟨rfl, ⟨nd, rfl⟩⟩) | (go_at_call 11; (with_reducible refine (day_Leap.calls (wrap64 ((wrap64 (400 * (Int.tmod t116 10))) + 100)) true _ A12.out).mono ?_); rintro e w' ⟨rfl, ⟨nd, rfl⟩⟩))
                go_ret
                exact ⟨by first | rfl | (simp [errW_none, errW_some] <;> rfl) | (simp [*, errW_none, errW_some] <;> rfl), by repeat (first | (with_reducible first | exact HB.out | apply below_alloc | apply pw_below_drewN | apply below_drew1) | exact HB.out)⟩
              · replace c13 := Bool.eq_false_iff.mpr c13
                subst c13
                have H1 : ((day_Leap.f (wrap64 ((wrap64 (4 * (wrap64 ((Int.tmod t116 24) + 1)))) + 400))).bind fun t120 => (if t120 = true then ((day_Leap.f (wrap64 ((wrap64 (2 * t116)) + 1))).bind fun t121 => (some (!t121))) else (some false))) = some r := by rw [if_neg (show ¬ (false = true) by decide)] at H; exact H
                clear H
                have H := H1
                clear H1
                replace H := Option.bind_eq_some_iff.mp H
                obtain ⟨t120, A140, H⟩ := H
                replace H : (if t120 = true then ((day_Leap.f (wrap64 ((wrap64 (2 * t116)) + 1))).bind fun t121 => (some (!t121))) else (some false)) = some r := H
                have A14 := Aside0.mk A140
                clear A140
                by_cases c15 : t120 = true
                · subst c15
                  have H1 : ((day_Leap.f (wrap64 ((wrap64 (2 * t116)) + 1))).bind fun t121 => (some (!t121))) = some r := by rw [if_pos rfl] at H; exact H
                  clear H
                  have H := H1
                  clear H1
                  replace H := Option.bind_eq_some_iff.mp H
                  obtain ⟨t121, A160, H⟩ := H
                  replace H : (some (!t121)) = some r := H
                  have A16 := Aside0.mk A160
                  clear A160
                  obtain rfl := Option.some.inj H
                  go_wp2_with (first | (go_at_call 11; (with_reducible refine (day_Leap.calls (wrap64 (400 * (wrap64 ((Int.tmod t116 10) + 1)))) true _ A10.out).mono ?_); rintro e w' ⟨rfl, ⟨nd, rfl⟩⟩) | (go_at_call 11; (with_reducible refine (day_Leap.calls (wrap64 ((wrap64 (400 * (Int.tmod t116 10))) + 100)) false _ A12.out).mono ?_); rintro e w' ⟨rfl, ⟨nd, rfl⟩⟩) | (go_at_call 11; (with_reducible refine (day_Leap.calls (wrap64 ((wrap64 (4 * (wrap64 ((Int.tmod t116 24) + 1)))) + 400)) true _ A14.out).mono ?_); rintro e w' ⟨rfl, ⟨nd, rfl⟩⟩) | (go_at_call 11; (with_reducible refine (day_Leap.calls (wrap64 ((wrap64 (2 * t116)) + 1)) t121 _ A16.out).mono ?_); rintro e w' ⟨rfl, ⟨nd, rfl⟩⟩))
                  go_ret
                  exact ⟨by first | rfl | (simp [errW_none, errW_some] <;> rfl) | (simp [*, errW_none, errW_some] <;> rfl), by repeat (first | (with_reducible first | exact HB.out | apply below_alloc | apply pw_below_drewN | apply below_drew1) | exact HB.out)⟩
                · replace c15 := Bool.eq_false_iff.mpr c15
                  subst c15
                  have H1 : (some false) = some r := by rw [if_neg (show ¬ (false = true) by decide)] at H; exact H
                  clear H
                  have H := H1
                  clear H1
                  obtain rfl := Option.some.inj H
                  go_wp2_with (first | (go_at_call 11; (with_reducible refine (day_Leap.calls (wrap64 (400 * (wrap64 ((Int.tmod t116 10) + 1)))) true _ A10.out).mono ?_); rintro e w' ⟨rfl, ⟨nd, rfl⟩⟩) | (go_at_call 11; (with_reducible refine (day_Leap.calls (wrap64 ((wrap64 (400 * (Int.tmod t116 10))) + 100)) false _ A12.out).mono ?_); rintro e w' ⟨rfl, ⟨nd, rfl⟩⟩) | (go_at_call 11; (with_reducible refine (day_Leap.calls (wrap64 ((wrap64 (4 * (wrap64 ((Int.tmod t116 24) + 1)))) + 400)) false _ A14.out).mono ?_); rintro e w' ⟨rfl, ⟨nd, rfl⟩⟩))
                  go_ret
                  exact ⟨by first | rfl | (simp [errW_none, errW_some] <;> rfl) | (simp [*, errW_none, errW_some] <;> rfl), by repeat (first | (with_reducible first | exact HB.out | apply below_alloc | apply pw_below_drewN | apply below_drew1) | exact HB.out)⟩
            · replace c11 := Bool.eq_false_iff.mpr c11
              subst c11
              have H1 : (some false) = some r := by rw [if_neg (show ¬ (false = true) by decide)] at H; exact H
              clear H
              have H := H1
              clear H1
              obtain rfl := Option.some.inj H
              go_wp2_with (first | (go_at_call 11; (with_reducible refine (day_Leap.calls (wrap64 (400 * (wrap64 ((Int.tmod t116 10) + 1)))) false _ A10.out).mono ?_); rintro e w' ⟨rfl, ⟨nd, rfl⟩⟩))
              go_ret
              exact ⟨by first | rfl | (simp [errW_none, errW_some] <;> rfl) | (simp [*, errW_none, errW_some] <;> rfl), by repeat (first | (with_reducible first | exact HB.out | apply below_alloc | apply pw_below_drewN | apply below_drew1) | exact HB.out)⟩
          · rw [if_neg c9] at H
            have c9b0 : (x4_1 == 97) = false := beq_eq_false_iff_ne.mpr c9
            have c9b1 : (x4_1 != 97) = true := bne_iff_ne.mpr c9
            obtain rfl := Option.some.inj H
            go_wp2
            go_ret
            exact ⟨by first | rfl | (simp [errW_none, errW_some] <;> rfl) | (simp [*, errW_none, errW_some] <;> rfl), by repeat (first | (with_reducible first | exact HB.out | apply below_alloc | apply pw_below_drewN | apply below_drew1) | exact HB.out)⟩
  · replace c3 := Bool.eq_false_iff.mpr c3
    subst c3
    have H1 : (some false) = some r := by rw [if_neg (show ¬ (false = true) by decide)] at H; exact H
    clear H
    have H := H1
    clear H1
    obtain rfl := Option.some.inj H
    go_enter Tryd.func3, Tryd.ntmps3
    go_wp2_with (first | ((with_reducible refine gate_callee (f := 9) rfl ?_); refine goesL_ (some 6) rfl rfl Tryd.func9 (by kernel_rfl) rfl #[] rfl (by (try simp only [List.map_toArray, List.map_cons, List.map_nil]); first | done | rfl | (simp only [List.length_drop, List.length_take]; rfl)) ?_; (with_reducible refine (pledgelaw4_first.calls k  false _ ?side1 A2.out).mono ?_); (case side1 => exact GlobOK.below HG.out (by repeat (first | (with_reducible first | exact HB.out | apply below_alloc | apply pw_below_drewN | apply below_drew1) | exact HB.out))); rintro e w17 ⟨rfl, hb⟩; refine ⟨_, rfl, ?_⟩; have n0_ := Aside0.mk (below_step (by repeat (first | (with_reducible first | exact HB.out | apply below_alloc | apply pw_below_drewN | apply below_drew1) | exact HB.out)) hb); clear HB; have HB := n0_; clear n0_; (try clear hb); (try clear hb2); (try clear hk); (try clear hi)))
    go_ret
    exact ⟨by first | rfl | (simp [errW_none, errW_some] <;> rfl) | (simp [*, errW_none, errW_some] <;> rfl), by repeat (first | (with_reducible first | exact HB.out | apply below_alloc | apply pw_below_drewN | apply below_drew1) | exact HB.out)⟩

/-- The pure statement of pledgelaw4_DayLeaps: numbers and lists alone. -/
def pledgelaw4_DayLeaps.Pure : Prop := ∀ (a0 : Int), Rng .i64 a0 → ∃ k, pledgelaw4_DayLeaps.f k a0 = some true

end Go.Proofs.YtobgpafdebiphaaDoor.EDayLeaps
