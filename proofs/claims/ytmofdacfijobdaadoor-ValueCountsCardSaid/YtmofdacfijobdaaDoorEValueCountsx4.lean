/- The functions that the law comes to, as plain functions, and for each a proof that the Go code comes to just these answers. Written by a program of this claim. Conditions: each theorem bears its own. -/
import Derived.Test.YtmofdacfijobdaaDoorEValueCountsx0
import Derived.Test.YtmofdacfijobdaaDoorEValueCountsx1
import Derived.Test.YtmofdacfijobdaaDoorEValueCountsx3
namespace Go.Proofs.YtmofdacfijobdaaDoor.EValueCounts
open Go.RowKit Go.Proofs.YtmofdacfijobdaaDoorW.PrintWords Go.Proofs.YtmofdacfijobdaaDoorW.PrintLast Go.Proofs.YtmofdacfijobdaaDoorW.PrintMore Go.Proofs.YtmofdacfijobdaaDoorW.PrintOpen
attribute [local go_sem] max2_int min2_int max_two min_two max_three min_three max_four min_four   -- for this text's walks alone
set_option linter.unusedVariables false
set_option linter.unusedSimpArgs false

/-! ### pledgeworld_Number: function 14 -/
def pledgeworld_Number.f (a0 : Int) (a1 : Int) : Option (Int) := if a1 = 0 then (none) else (if (Int.tmod a0 a1) < 0 then (some (wrap64 ((Int.tmod a0 a1) + a1))) else (some (Int.tmod a0 a1)))
set_option maxHeartbeats 8000000 in
set_option maxRecDepth 100000 in
theorem pledgeworld_Number.calls [Inhabited (Int → Addr)] (a0 : Int) (a1 : Int) (r : Int) (w : World) (h : pledgeworld_Number.f a0 a1 = some r) :
    Calls Tryd.prog 14 #[.int .i64 a0, .int .i64 a1] w fun e w' => e = .returned (.int .i64 r) ∧ Drawn0 w w' := by
  have H : (if a1 = 0 then (none) else (if (Int.tmod a0 a1) < 0 then (some (wrap64 ((Int.tmod a0 a1) + a1))) else (some (Int.tmod a0 a1)))) = some r := h
  clear h
  by_cases c3 : a1 = 0
  · rw [if_pos c3] at H
    exact absurd H (by simp)
  · rw [if_neg c3] at H
    have c3b0 : (a1 == 0) = false := beq_eq_false_iff_ne.mpr c3
    have c3b1 : (a1 != 0) = true := bne_iff_ne.mpr c3
    by_cases c4 : (Int.tmod a0 a1) < 0
    · rw [if_pos c4] at H
      have c4b0 : decide ((Int.tmod a0 a1) < 0) = true := decide_eq_true c4
      clear c4
      obtain rfl := Option.some.inj H
      go_enter Tryd.func14, Tryd.ntmps14
      go_wp2
      go_ret
      exact ⟨by first | rfl | (simp; done) | (simp [*]; done) | (simp [wrap64]; done) | (simp <;> rfl), by repeat (first | exact Drawn0.refl _ | apply Drawn0.step)⟩
    · rw [if_neg c4] at H
      have c4b0 : decide ((Int.tmod a0 a1) < 0) = false := decide_eq_false c4
      clear c4
      obtain rfl := Option.some.inj H
      go_enter Tryd.func14, Tryd.ntmps14
      go_wp2
      go_ret
      exact ⟨by first | rfl | (simp; done) | (simp [*]; done) | (simp [wrap64]; done) | (simp <;> rfl), by repeat (first | exact Drawn0.refl _ | apply Drawn0.step)⟩

/-! ### pledgelaw15_ValueCounts: function 5 -/
def pledgelaw15_ValueCounts.j0 : Nat → Int → Int → Bool → Bool → Bool → Bool → Option (Bool)
  | 0, _, _, _, _, _, _ => none
  | k + 1, x0, x1, x11, x12, x13, x40 => if x40 = true then (if x0 = 0 then (if x11 = true then (if (x12 == false) = true then (some true) else (some false)) else (some false)) else (if x0 = x1 then (if x11 = true then (if (x12 == false) = true then (some true) else (some false)) else (some false)) else (if x11 = true then (if (x12 == false) = true then (some true) else (some false)) else (some false)))) else (if x0 = 0 then (if x11 = true then (if (x12 == x13) = true then (some true) else (some false)) else (some false)) else (if x0 = x1 then (if x11 = true then (if (x12 == false) = true then (some true) else (some false)) else (some false)) else (if x11 = true then (if (x12 == x13) = true then (some true) else (some false)) else (some false))))
def pledgelaw15_ValueCounts.f (k : Nat) (a0 : Int) (a1 : Int) (a2 : Int) (a3 : Int) (a4 : Bool) : Option (Bool) := (pledgelaw15_first.f k).bind fun t159 => (if t159 = true then ((pledgeworld_Number.f a0 4).bind fun t160 => ((pledgeworld_Number.f a1 4).bind fun t161 => ((pledgeworld_Number.f a2 9).bind fun t162 => ((pledgeworld_Number.f a3 9).bind fun t163 => ((value_Counts.f 1 t160 2 1 t162 t163 t161 a4 0 0 0).bind fun t164 => (if t162 = 0 then (pledgelaw15_ValueCounts.j0 k t160 t161 t159 t164 a4 false) else (pledgelaw15_ValueCounts.j0 k t160 t161 t159 t164 a4 (decide (t163 ≥ t162))))))))) else (some false))
theorem pledgelaw15_ValueCounts.mono_l : ∀ k, (∀ y0 y1 y2 y3 y4 y5, LeO (pledgelaw15_ValueCounts.j0 k y0 y1 y2 y3 y4 y5) (pledgelaw15_ValueCounts.j0 (k + 1) y0 y1 y2 y3 y4 y5))
  | 0 => fun _ _ _ _ _ _ r h => by simp [pledgelaw15_ValueCounts.j0] at h
  | k + 1 => by
    have ih0 := pledgelaw15_ValueCounts.mono_l k
    · intro y0 y1 y2 y3 y4 y5
      unfold pledgelaw15_ValueCounts.j0
      repeat' first
      | (with_reducible exact ih0 _ _ _ _ _ _)
      | (with_reducible exact pledgelaw15_first.mono _)
      | (with_reducible exact LeO.refl _)
      | (with_reducible exact LeO.none _)
      | (with_reducible refine LeO.ite ?_ ?_)
      | (with_reducible refine LeO.bind ?_ (fun _ => ?_))
      | exact ih0 _ _ _ _ _ _
      | exact pledgelaw15_first.mono _
      | exact LeO.none _
      | refine LeO.ite ?_ ?_
      | refine LeO.bind ?_ (fun _ => ?_)
theorem pledgelaw15_ValueCounts.mono : ∀ a0 a1 a2 a3 a4 k, LeO (pledgelaw15_ValueCounts.f k a0 a1 a2 a3 a4) (pledgelaw15_ValueCounts.f (k + 1) a0 a1 a2 a3 a4) := by
  intro a0 a1 a2 a3 a4 k
  have ih0 := pledgelaw15_ValueCounts.mono_l k
  unfold pledgelaw15_ValueCounts.f
  repeat' first
      | (with_reducible exact ih0 _ _ _ _ _ _)
      | (with_reducible exact pledgelaw15_first.mono _)
      | (with_reducible exact LeO.refl _)
      | (with_reducible exact LeO.none _)
      | (with_reducible refine LeO.ite ?_ ?_)
      | (with_reducible refine LeO.bind ?_ (fun _ => ?_))
      | exact ih0 _ _ _ _ _ _
      | exact pledgelaw15_first.mono _
      | exact LeO.none _
      | refine LeO.ite ?_ ?_
      | refine LeO.bind ?_ (fun _ => ?_)
set_option maxHeartbeats 8000000 in
set_option maxRecDepth 100000 in
theorem pledgelaw15_ValueCounts.calls [Inhabited (Int → Addr)] (k : Nat) (a0 : Int) (a1 : Int) (a2 : Int) (a3 : Int) (a4 : Bool) (r : Bool) (w : World) (hG : GlobOK w) (h : pledgelaw15_ValueCounts.f k a0 a1 a2 a3 a4 = some r) :
    Calls Tryd.prog 5 #[.int .i64 a0, .int .i64 a1, .int .i64 a2, .int .i64 a3, .bool a4] w fun e w' => e = .returned (.bool r) ∧ Below w.heap.size w w' := by
  have hu23 := Tryd.underlying23
  have hu25 := Tryd.underlying25
  have HG := Aside0.mk hG
  clear hG
  have HB := Aside0.mk (Below.refl w.heap.size w)
  have H : ((pledgelaw15_first.f k).bind fun t159 => (if t159 = true then ((pledgeworld_Number.f a0 4).bind fun t160 => ((pledgeworld_Number.f a1 4).bind fun t161 => ((pledgeworld_Number.f a2 9).bind fun t162 => ((pledgeworld_Number.f a3 9).bind fun t163 => ((value_Counts.f 1 t160 2 1 t162 t163 t161 a4 0 0 0).bind fun t164 => (if t162 = 0 then (pledgelaw15_ValueCounts.j0 k t160 t161 t159 t164 a4 false) else (pledgelaw15_ValueCounts.j0 k t160 t161 t159 t164 a4 (decide (t163 ≥ t162))))))))) else (some false))) = some r := h
  clear h
  replace H := Option.bind_eq_some_iff.mp H
  obtain ⟨t159, A60, H⟩ := H
  replace H : (if t159 = true then ((pledgeworld_Number.f a0 4).bind fun t160 => ((pledgeworld_Number.f a1 4).bind fun t161 => ((pledgeworld_Number.f a2 9).bind fun t162 => ((pledgeworld_Number.f a3 9).bind fun t163 => ((value_Counts.f 1 t160 2 1 t162 t163 t161 a4 0 0 0).bind fun t164 => (if t162 = 0 then (pledgelaw15_ValueCounts.j0 k t160 t161 t159 t164 a4 false) else (pledgelaw15_ValueCounts.j0 k t160 t161 t159 t164 a4 (decide (t163 ≥ t162))))))))) else (some false)) = some r := H
  have A6 := Aside0.mk A60
  clear A60
  by_cases c7 : t159 = true
  · subst c7
    have H1 : ((pledgeworld_Number.f a0 4).bind fun t160 => ((pledgeworld_Number.f a1 4).bind fun t161 => ((pledgeworld_Number.f a2 9).bind fun t162 => ((pledgeworld_Number.f a3 9).bind fun t163 => ((value_Counts.f 1 t160 2 1 t162 t163 t161 a4 0 0 0).bind fun t164 => (if t162 = 0 then (pledgelaw15_ValueCounts.j0 k t160 t161 true t164 a4 false) else (pledgelaw15_ValueCounts.j0 k t160 t161 true t164 a4 (decide (t163 ≥ t162))))))))) = some r := by rw [if_pos rfl] at H; exact H
    clear H
    have H := H1
    clear H1
    replace H := Option.bind_eq_some_iff.mp H
    obtain ⟨t160, A80, H⟩ := H
    replace H : ((pledgeworld_Number.f a1 4).bind fun t161 => ((pledgeworld_Number.f a2 9).bind fun t162 => ((pledgeworld_Number.f a3 9).bind fun t163 => ((value_Counts.f 1 t160 2 1 t162 t163 t161 a4 0 0 0).bind fun t164 => (if t162 = 0 then (pledgelaw15_ValueCounts.j0 k t160 t161 true t164 a4 false) else (pledgelaw15_ValueCounts.j0 k t160 t161 true t164 a4 (decide (t163 ≥ t162)))))))) = some r := H
    have A8 := Aside0.mk A80
    clear A80
    replace H := Option.bind_eq_some_iff.mp H
    obtain ⟨t161, A90, H⟩ := H
    replace H : ((pledgeworld_Number.f a2 9).bind fun t162 => ((pledgeworld_Number.f a3 9).bind fun t163 => ((value_Counts.f 1 t160 2 1 t162 t163 t161 a4 0 0 0).bind fun t164 => (if t162 = 0 then (pledgelaw15_ValueCounts.j0 k t160 t161 true t164 a4 false) else (pledgelaw15_ValueCounts.j0 k t160 t161 true t164 a4 (decide (t163 ≥ t162))))))) = some r := H
    have A9 := Aside0.mk A90
    clear A90
    replace H := Option.bind_eq_some_iff.mp H
    obtain ⟨t162, A100, H⟩ := H
    replace H : ((pledgeworld_Number.f a3 9).bind fun t163 => ((value_Counts.f 1 t160 2 1 t162 t163 t161 a4 0 0 0).bind fun t164 => (if t162 = 0 then (pledgelaw15_ValueCounts.j0 k t160 t161 true t164 a4 false) else (pledgelaw15_ValueCounts.j0 k t160 t161 true t164 a4 (decide (t163 ≥ t162)))))) = some r := H
    have A10 := Aside0.mk A100
    clear A100
    replace H := Option.bind_eq_some_iff.mp H
    obtain ⟨t163, A110, H⟩ := H
    replace H : ((value_Counts.f 1 t160 2 1 t162 t163 t161 a4 0 0 0).bind fun t164 => (if t162 = 0 then (pledgelaw15_ValueCounts.j0 k t160 t161 true t164 a4 false) else (pledgelaw15_ValueCounts.j0 k t160 t161 true t164 a4 (decide (t163 ≥ t162))))) = some r := H
    have A11 := Aside0.mk A110
    clear A110
    replace H := Option.bind_eq_some_iff.mp H
    obtain ⟨t164, A120, H⟩ := H
    replace H : (if t162 = 0 then (pledgelaw15_ValueCounts.j0 k t160 t161 true t164 a4 false) else (pledgelaw15_ValueCounts.j0 k t160 t161 true t164 a4 (decide (t163 ≥ t162)))) = some r := H
    have A12 := Aside0.mk A120
    clear A120
    have HC13 := Aside0.mk H
    clear H
    go_enter Tryd.func5, Tryd.ntmps5
    go_upto_region 10 with (first | ((with_reducible refine gate_callee (f := 7) rfl ?_); refine goesL_ (some 14) rfl rfl Tryd.func7 (by kernel_rfl) rfl #[] rfl (by (try simp only [List.map_toArray, List.map_cons, List.map_nil]); first | done | rfl | (simp only [List.length_drop, List.length_take]; rfl)) ?_; (with_reducible refine (pledgelaw15_first.calls k  true _ ?side1 A6.out).mono ?_); (case side1 => exact GlobOK.below HG.out (by repeat (first | (with_reducible first | exact HB.out | apply below_alloc | apply pw_below_drewN | apply below_drew1) | exact HB.out))); rintro e w14 ⟨rfl, hb⟩; refine ⟨_, rfl, ?_⟩; have n0_ := Aside0.mk (below_step (by repeat (first | (with_reducible first | exact HB.out | apply below_alloc | apply pw_below_drewN | apply below_drew1) | exact HB.out)) hb); clear HB; have HB := n0_; clear n0_; (try clear hb); (try clear hb2); (try clear hk); (try clear hi)) | ((with_reducible refine gate_callee (f := 14) rfl ?_); refine goesL_ (some 18) rfl rfl Tryd.func14 (by kernel_rfl) rfl #[.int .i64 a0, .int .i64 4] rfl (by (try simp only [List.map_toArray, List.map_cons, List.map_nil]); first | done | rfl | (simp only [List.length_drop, List.length_take]; rfl)) ?_; (with_reducible refine (pledgeworld_Number.calls a0 4 t160 _ A8.out).mono ?_); rintro e w' ⟨rfl, ⟨nd, rfl⟩⟩; refine ⟨_, rfl, ?_⟩) | ((with_reducible refine gate_callee (f := 14) rfl ?_); refine goesL_ (some 20) rfl rfl Tryd.func14 (by kernel_rfl) rfl #[.int .i64 a1, .int .i64 4] rfl (by (try simp only [List.map_toArray, List.map_cons, List.map_nil]); first | done | rfl | (simp only [List.length_drop, List.length_take]; rfl)) ?_; (with_reducible refine (pledgeworld_Number.calls a1 4 t161 _ A9.out).mono ?_); rintro e w' ⟨rfl, ⟨nd, rfl⟩⟩; refine ⟨_, rfl, ?_⟩) | ((with_reducible refine gate_callee (f := 14) rfl ?_); refine goesL_ (some 22) rfl rfl Tryd.func14 (by kernel_rfl) rfl #[.int .i64 a2, .int .i64 9] rfl (by (try simp only [List.map_toArray, List.map_cons, List.map_nil]); first | done | rfl | (simp only [List.length_drop, List.length_take]; rfl)) ?_; (with_reducible refine (pledgeworld_Number.calls a2 9 t162 _ A10.out).mono ?_); rintro e w' ⟨rfl, ⟨nd, rfl⟩⟩; refine ⟨_, rfl, ?_⟩) | ((with_reducible refine gate_callee (f := 14) rfl ?_); refine goesL_ (some 24) rfl rfl Tryd.func14 (by kernel_rfl) rfl #[.int .i64 a3, .int .i64 9] rfl (by (try simp only [List.map_toArray, List.map_cons, List.map_nil]); first | done | rfl | (simp only [List.length_drop, List.length_take]; rfl)) ?_; (with_reducible refine (pledgeworld_Number.calls a3 9 t163 _ A11.out).mono ?_); rintro e w' ⟨rfl, ⟨nd, rfl⟩⟩; refine ⟨_, rfl, ?_⟩) | ((with_reducible refine gate_callee (f := 12) rfl ?_); refine goesL_ (some 32) rfl rfl Tryd.func12 (by kernel_rfl) rfl #[.agg #[.int .i64 1, .int .i64 t160, .int .i64 2, .int .i64 1, .int .i64 t162], .agg #[.int .i64 t163, .int .i64 t161, .bool a4, .int .i64 0, .int .i64 0, .int .i64 0]] rfl (by (try simp only [List.map_toArray, List.map_cons, List.map_nil]); first | done | rfl | (simp only [List.length_drop, List.length_take]; rfl)) ?_; (with_reducible refine (value_Counts.calls 1 t160 2 1 t162 t163 t161 a4 0 0 0 t164 _ A12.out).mono ?_); rintro e w15 ⟨rfl, hb⟩; refine ⟨_, rfl, ?_⟩; have n0_ := Aside0.mk (below_step (by repeat (first | (with_reducible first | exact HB.out | apply below_alloc | apply pw_below_drewN | apply below_drew1) | exact HB.out)) hb); clear HB; have HB := n0_; clear n0_; (try clear hb); (try clear hb2); (try clear hk); (try clear hi)))
    (try simp only [Act.put, List.setIfInBounds_toArray, List.set_cons_zero, List.set_cons_succ])
    go_cut [40] (fun v40 wc => ∃ (kq : Nat) (x40_12 : Bool), v40 = .bool x40_12 ∧ Aside0 (pledgelaw15_ValueCounts.j0 kq t160 t161 true t164 a4 x40_12 = some r) ∧ Aside0 (kq ≤ k) ∧ Aside0 (Below w.heap.size w wc))
    case first =>
      have H := HC13.out
      clear HC13
      by_cases c16 : t162 = 0
      · rw [if_pos c16] at H
        have c16b0 : (t162 == 0) = true := beq_iff_eq.mpr c16
        have c16b1 : (t162 != 0) = false := bne_eq_false_iff_eq.mpr c16
        clear c16
        (first | rw [c16b0] | (simp only [i64_w, i32_w]; rw [c16b0]) | skip)
        have H' := Aside0.mk H
        clear H
        go_wp2
        go_meet
        case rel => exact ⟨_, (false), (by first | rfl | (simp; done) | (simp [*]; done)), H', ⟨by first | omega | exact Nat.le_refl _⟩, ⟨by repeat (first | (with_reducible first | exact HB.out | apply below_alloc | apply pw_below_drewN | apply below_drew1) | exact HB.out)⟩⟩
      · rw [if_neg c16] at H
        have c16b0 : (t162 == 0) = false := beq_eq_false_iff_ne.mpr c16
        have c16b1 : (t162 != 0) = true := bne_iff_ne.mpr c16
        (first | rw [c16b0] | (simp only [i64_w, i32_w]; rw [c16b0]) | skip)
        have H' := Aside0.mk H
        clear H
        go_wp2
        go_meet
        case rel => exact ⟨_, (decide (t163 ≥ t162)), (by first | rfl | (simp; done) | (simp [*]; done)), H', ⟨by first | omega | exact Nat.le_refl _⟩, ⟨by repeat (first | (with_reducible first | exact HB.out | apply below_alloc | apply pw_below_drewN | apply below_drew1) | exact HB.out)⟩⟩
    case rest =>
      clear HC13
      try clear c1
      try clear p2
      try clear c5
      try clear c7
      try clear c12
      try clear c14
      try clear c16
      try clear c16b0
      try clear c16b1
      obtain ⟨kq, x40_12, rfl, HA, HJ12, HB⟩ := hcut
      cases kq with
      | zero => exact absurd HA.out (by simp [pledgelaw15_ValueCounts.j0])
      | succ kj12 =>
        have H := HA.out
        clear HA
        simp only [pledgelaw15_ValueCounts.j0] at H
        by_cases c17 : x40_12 = true
        · subst c17
          have H1 : (if t160 = 0 then (if true = true then (if (t164 == false) = true then (some true) else (some false)) else (some false)) else (if t160 = t161 then (if true = true then (if (t164 == false) = true then (some true) else (some false)) else (some false)) else (if true = true then (if (t164 == false) = true then (some true) else (some false)) else (some false)))) = some r := by rw [if_pos rfl] at H; exact H
          clear H
          have H := H1
          clear H1
          by_cases c18 : t160 = 0
          · rw [if_pos c18] at H
            have c18b0 : (t160 == 0) = true := beq_iff_eq.mpr c18
            have c18b1 : (t160 != 0) = false := bne_eq_false_iff_eq.mpr c18
            clear c18
            have H1 : (if (t164 == false) = true then (some true) else (some false)) = some r := by first | (rw [if_pos rfl] at H; exact H) | (rw [if_pos trivial] at H; exact H)
            clear H
            have H := H1
            clear H1
            by_cases c19 : (t164 == false) = true
            · rw [if_pos c19] at H
              have c19b0 : (t164 == false) = true := c19
              (try (have c19b1 : decide (t164 = false) = true := by simpa using c19))
              (try (have c19b2 : (t164 == false) = true := by simpa using c19))
              clear c19
              obtain rfl := Option.some.inj H
              go_wp2
              go_ret
              exact ⟨by first | rfl | (simp [errW_none, errW_some] <;> rfl) | (exfalso; simp_all; done) | (simp [*, errW_none, errW_some] <;> rfl), by repeat (first | (with_reducible first | exact HB.out | apply below_alloc | apply pw_below_drewN | apply below_drew1) | exact HB.out)⟩
            · rw [if_neg c19] at H
              have c19b0 : (t164 == false) = false := by simpa using c19
              (try (have c19b1 : decide (t164 = false) = false := by simpa using c19))
              (try (have c19b2 : (t164 == false) = false := by simpa using c19))
              (try (have c19b3 : ¬ (t164 = false) := by simpa using c19))
              clear c19
              obtain rfl := Option.some.inj H
              go_wp2
              go_ret
              exact ⟨by first | rfl | (simp [errW_none, errW_some] <;> rfl) | (exfalso; simp_all; done) | (simp [*, errW_none, errW_some] <;> rfl), by repeat (first | (with_reducible first | exact HB.out | apply below_alloc | apply pw_below_drewN | apply below_drew1) | exact HB.out)⟩
          · rw [if_neg c18] at H
            have c18b0 : (t160 == 0) = false := beq_eq_false_iff_ne.mpr c18
            have c18b1 : (t160 != 0) = true := bne_iff_ne.mpr c18
            by_cases c20 : t160 = t161
            · rw [if_pos c20] at H
              have c20b0 : (t160 == t161) = true := beq_iff_eq.mpr c20
              have c20b1 : (t160 != t161) = false := bne_eq_false_iff_eq.mpr c20
              clear c20
              have H1 : (if (t164 == false) = true then (some true) else (some false)) = some r := by first | (rw [if_pos rfl] at H; exact H) | (rw [if_pos trivial] at H; exact H)
              clear H
              have H := H1
              clear H1
              by_cases c21 : (t164 == false) = true
              · rw [if_pos c21] at H
                have c21b0 : (t164 == false) = true := c21
                (try (have c21b1 : decide (t164 = false) = true := by simpa using c21))
                (try (have c21b2 : (t164 == false) = true := by simpa using c21))
                clear c21
                obtain rfl := Option.some.inj H
                go_wp2
                go_ret
                exact ⟨by first | rfl | (simp [errW_none, errW_some] <;> rfl) | (exfalso; simp_all; done) | (simp [*, errW_none, errW_some] <;> rfl), by repeat (first | (with_reducible first | exact HB.out | apply below_alloc | apply pw_below_drewN | apply below_drew1) | exact HB.out)⟩
              · rw [if_neg c21] at H
                have c21b0 : (t164 == false) = false := by simpa using c21
                (try (have c21b1 : decide (t164 = false) = false := by simpa using c21))
                (try (have c21b2 : (t164 == false) = false := by simpa using c21))
                (try (have c21b3 : ¬ (t164 = false) := by simpa using c21))
                clear c21
                obtain rfl := Option.some.inj H
                go_wp2
                go_ret
                exact ⟨by first | rfl | (simp [errW_none, errW_some] <;> rfl) | (exfalso; simp_all; done) | (simp [*, errW_none, errW_some] <;> rfl), by repeat (first | (with_reducible first | exact HB.out | apply below_alloc | apply pw_below_drewN | apply below_drew1) | exact HB.out)⟩
            · rw [if_neg c20] at H
              have c20b0 : (t160 == t161) = false := beq_eq_false_iff_ne.mpr c20
              have c20b1 : (t160 != t161) = true := bne_iff_ne.mpr c20
              have H1 : (if (t164 == false) = true then (some true) else (some false)) = some r := by first | (rw [if_pos rfl] at H; exact H) | (rw [if_pos trivial] at H; exact H)
              clear H
              have H := H1
              clear H1
              by_cases c22 : (t164 == false) = true
              · rw [if_pos c22] at H
                have c22b0 : (t164 == false) = true := c22
                (try (have c22b1 : decide (t164 = false) = true := by simpa using c22))
                (try (have c22b2 : (t164 == false) = true := by simpa using c22))
                clear c22
                obtain rfl := Option.some.inj H
                go_wp2
                go_ret
                exact ⟨by first | rfl | (simp [errW_none, errW_some] <;> rfl) | (exfalso; simp_all; done) | (simp [*, errW_none, errW_some] <;> rfl), by repeat (first | (with_reducible first | exact HB.out | apply below_alloc | apply pw_below_drewN | apply below_drew1) | exact HB.out)⟩
              · rw [if_neg c22] at H
                have c22b0 : (t164 == false) = false := by simpa using c22
                (try (have c22b1 : decide (t164 = false) = false := by simpa using c22))
                (try (have c22b2 : (t164 == false) = false := by simpa using c22))
                (try (have c22b3 : ¬ (t164 = false) := by simpa using c22))
                clear c22
                obtain rfl := Option.some.inj H
                go_wp2
                go_ret
                exact ⟨by first | rfl | (simp [errW_none, errW_some] <;> rfl) | (exfalso; simp_all; done) | (simp [*, errW_none, errW_some] <;> rfl), by repeat (first | (with_reducible first | exact HB.out | apply below_alloc | apply pw_below_drewN | apply below_drew1) | exact HB.out)⟩
        · replace c17 := Bool.eq_false_iff.mpr c17
          subst c17
          have H1 : (if t160 = 0 then (if true = true then (if (t164 == a4) = true then (some true) else (some false)) else (some false)) else (if t160 = t161 then (if true = true then (if (t164 == false) = true then (some true) else (some false)) else (some false)) else (if true = true then (if (t164 == a4) = true then (some true) else (some false)) else (some false)))) = some r := by rw [if_neg (show ¬ (false = true) by decide)] at H; exact H
          clear H
          have H := H1
          clear H1
          by_cases c23 : t160 = 0
          · rw [if_pos c23] at H
            have c23b0 : (t160 == 0) = true := beq_iff_eq.mpr c23
            have c23b1 : (t160 != 0) = false := bne_eq_false_iff_eq.mpr c23
            clear c23
            have H1 : (if (t164 == a4) = true then (some true) else (some false)) = some r := by first | (rw [if_pos rfl] at H; exact H) | (rw [if_pos trivial] at H; exact H)
            clear H
            have H := H1
            clear H1
            by_cases c24 : (t164 == a4) = true
            · rw [if_pos c24] at H
              have c24b0 : (t164 == a4) = true := c24
              (try (have c24b1 : decide (t164 = a4) = true := by simpa using c24))
              (try (have c24b2 : (t164 == a4) = true := by simpa using c24))
              clear c24
              obtain rfl := Option.some.inj H
              go_wp2
              go_ret
              exact ⟨by first | rfl | (simp [errW_none, errW_some] <;> rfl) | (exfalso; simp_all; done) | (simp [*, errW_none, errW_some] <;> rfl), by repeat (first | (with_reducible first | exact HB.out | apply below_alloc | apply pw_below_drewN | apply below_drew1) | exact HB.out)⟩
            · rw [if_neg c24] at H
              have c24b0 : (t164 == a4) = false := by simpa using c24
              (try (have c24b1 : decide (t164 = a4) = false := by simpa using c24))
              (try (have c24b2 : (t164 == a4) = false := by simpa using c24))
              (try (have c24b3 : ¬ (t164 = a4) := by simpa using c24))
              clear c24
              obtain rfl := Option.some.inj H
              go_wp2
              go_ret
              exact ⟨by first | rfl | (simp [errW_none, errW_some] <;> rfl) | (exfalso; simp_all; done) | (simp [*, errW_none, errW_some] <;> rfl), by repeat (first | (with_reducible first | exact HB.out | apply below_alloc | apply pw_below_drewN | apply below_drew1) | exact HB.out)⟩
          · rw [if_neg c23] at H
            have c23b0 : (t160 == 0) = false := beq_eq_false_iff_ne.mpr c23
            have c23b1 : (t160 != 0) = true := bne_iff_ne.mpr c23
            by_cases c25 : t160 = t161
            · rw [if_pos c25] at H
              have c25b0 : (t160 == t161) = true := beq_iff_eq.mpr c25
              have c25b1 : (t160 != t161) = false := bne_eq_false_iff_eq.mpr c25
              clear c25
              have H1 : (if (t164 == false) = true then (some true) else (some false)) = some r := by first | (rw [if_pos rfl] at H; exact H) | (rw [if_pos trivial] at H; exact H)
              clear H
              have H := H1
              clear H1
              by_cases c26 : (t164 == false) = true
              · rw [if_pos c26] at H
                have c26b0 : (t164 == false) = true := c26
                (try (have c26b1 : decide (t164 = false) = true := by simpa using c26))
                (try (have c26b2 : (t164 == false) = true := by simpa using c26))
                clear c26
                obtain rfl := Option.some.inj H
                go_wp2
                go_ret
                exact ⟨by first | rfl | (simp [errW_none, errW_some] <;> rfl) | (exfalso; simp_all; done) | (simp [*, errW_none, errW_some] <;> rfl), by repeat (first | (with_reducible first | exact HB.out | apply below_alloc | apply pw_below_drewN | apply below_drew1) | exact HB.out)⟩
              · rw [if_neg c26] at H
                have c26b0 : (t164 == false) = false := by simpa using c26
                (try (have c26b1 : decide (t164 = false) = false := by simpa using c26))
                (try (have c26b2 : (t164 == false) = false := by simpa using c26))
                (try (have c26b3 : ¬ (t164 = false) := by simpa using c26))
                clear c26
                obtain rfl := Option.some.inj H
                go_wp2
                go_ret
                exact ⟨by first | rfl | (simp [errW_none, errW_some] <;> rfl) | (exfalso; simp_all; done) | (simp [*, errW_none, errW_some] <;> rfl), by repeat (first | (with_reducible first | exact HB.out | apply below_alloc | apply pw_below_drewN | apply below_drew1) | exact HB.out)⟩
            · rw [if_neg c25] at H
              have c25b0 : (t160 == t161) = false := beq_eq_false_iff_ne.mpr c25
              have c25b1 : (t160 != t161) = true := bne_iff_ne.mpr c25
              have H1 : (if (t164 == a4) = true then (some true) else (some false)) = some r := by first | (rw [if_pos rfl] at H; exact H) | (rw [if_pos trivial] at H; exact H)
              clear H
              have H := H1
              clear H1
              by_cases c27 : (t164 == a4) = true
              · rw [if_pos c27] at H
                have c27b0 : (t164 == a4) = true := c27
                (try (have c27b1 : decide (t164 = a4) = true := by simpa using c27))
                (try (have c27b2 : (t164 == a4) = true := by simpa using c27))
                clear c27
                obtain rfl := Option.some.inj H
                go_wp2
                go_ret
                exact ⟨by first | rfl | (simp [errW_none, errW_some] <;> rfl) | (exfalso; simp_all; done) | (simp [*, errW_none, errW_some] <;> rfl), by repeat (first | (with_reducible first | exact HB.out | apply below_alloc | apply pw_below_drewN | apply below_drew1) | exact HB.out)⟩
              · rw [if_neg c27] at H
                have c27b0 : (t164 == a4) = false := by simpa using c27
                (try (have c27b1 : decide (t164 = a4) = false := by simpa using c27))
                (try (have c27b2 : (t164 == a4) = false := by simpa using c27))
                (try (have c27b3 : ¬ (t164 = a4) := by simpa using c27))
                clear c27
                obtain rfl := Option.some.inj H
                go_wp2
                go_ret
                exact ⟨by first | rfl | (simp [errW_none, errW_some] <;> rfl) | (exfalso; simp_all; done) | (simp [*, errW_none, errW_some] <;> rfl), by repeat (first | (with_reducible first | exact HB.out | apply below_alloc | apply pw_below_drewN | apply below_drew1) | exact HB.out)⟩
  · replace c7 := Bool.eq_false_iff.mpr c7
    subst c7
    have H1 : (some false) = some r := by rw [if_neg (show ¬ (false = true) by decide)] at H; exact H
    clear H
    have H := H1
    clear H1
    obtain rfl := Option.some.inj H
    go_enter Tryd.func5, Tryd.ntmps5
    go_wp2_with (first | ((with_reducible refine gate_callee (f := 7) rfl ?_); refine goesL_ (some 14) rfl rfl Tryd.func7 (by kernel_rfl) rfl #[] rfl (by (try simp only [List.map_toArray, List.map_cons, List.map_nil]); first | done | rfl | (simp only [List.length_drop, List.length_take]; rfl)) ?_; (with_reducible refine (pledgelaw15_first.calls k  false _ ?side1 A6.out).mono ?_); (case side1 => exact GlobOK.below HG.out (by repeat (first | (with_reducible first | exact HB.out | apply below_alloc | apply pw_below_drewN | apply below_drew1) | exact HB.out))); rintro e w28 ⟨rfl, hb⟩; refine ⟨_, rfl, ?_⟩; have n0_ := Aside0.mk (below_step (by repeat (first | (with_reducible first | exact HB.out | apply below_alloc | apply pw_below_drewN | apply below_drew1) | exact HB.out)) hb); clear HB; have HB := n0_; clear n0_; (try clear hb); (try clear hb2); (try clear hk); (try clear hi)))
    go_ret
    exact ⟨by first | rfl | (simp [errW_none, errW_some] <;> rfl) | (exfalso; simp_all; done) | (simp [*, errW_none, errW_some] <;> rfl), by repeat (first | (with_reducible first | exact HB.out | apply below_alloc | apply pw_below_drewN | apply below_drew1) | exact HB.out)⟩

/-- The pure statement of pledgelaw15_ValueCounts: numbers and lists alone. -/
def pledgelaw15_ValueCounts.Pure : Prop := ∀ (a0 : Int) (a1 : Int) (a2 : Int) (a3 : Int) (a4 : Bool), Rng .i64 a0 → Rng .i64 a1 → Rng .i64 a2 → Rng .i64 a3 → ∃ k, pledgelaw15_ValueCounts.f k a0 a1 a2 a3 a4 = some true

end Go.Proofs.YtmofdacfijobdaaDoor.EValueCounts
