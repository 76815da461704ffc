/- The functions that the law comes to, as plain functions, and for each a proof that the Go code comes to just these answers. Written by a program of this claim. Conditions: each theorem bears its own. -/
import Derived.Test.YtjfemoebahnbnaaEFixEdgesx0
import Derived.Test.YtjfemoebahnbnaaEFixEdgesx2
namespace Go.Proofs.Ytjfemoebahnbnaa.EFixEdges
open Go.RowKit Go.Proofs.YtjfemoebahnbnaaW.PrintWords Go.Proofs.YtjfemoebahnbnaaW.PrintLast Go.Proofs.YtjfemoebahnbnaaW.PrintMore Go.Proofs.YtjfemoebahnbnaaW.PrintOpen
attribute [local go_sem] max2_int min2_int max_two min_two max_three min_three max_four min_four   -- for this text's walks alone
set_option linter.unusedVariables false
set_option linter.unusedSimpArgs false

/-! ### pledgelaw2_FixEdges: function 4 -/
mutual
def pledgelaw2_FixEdges.j0 : Nat → Int → Bool → Bool → Option (Bool)
  | 0, _, _, _ => none
  | k + 1, x0, x5, x44 => if x44 = true then (some false) else ((fix_Add.f 9223372036854775807 x0).bind fun bt124 => ((fix_Sub.f (-9223372036854775808) x0).bind fun bt126 => (if x5 = true then (if (bt124.2 == (decide (x0 ≤ 0))) = true then (some (bt126.2 == (decide (x0 ≤ 0)))) else (some false)) else (some false))))
def pledgelaw2_FixEdges.j1 : Nat → Int → Bool → Bool → Option (Bool)
  | 0, _, _, _ => none
  | k + 1, x0, x5, x53 => if x53 = true then (some false) else ((fix_Add.f 9223372036854775807 x0).bind fun bt128 => ((fix_Sub.f (-9223372036854775808) x0).bind fun bt130 => (if x5 = true then (if (bt128.2 == (decide (x0 ≤ 0))) = true then (some (bt130.2 == (decide (x0 ≤ 0)))) else (some false)) else (some false))))
end
def pledgelaw2_FixEdges.f (k : Nat) (a0 : Int) (a1 : Int) : Option (Bool) := (pledgelaw2_first.f k).bind fun t119 => (if t119 = true then ((fix_Add.f a0 a1).bind fun bt120 => (if bt120.2 = true then ((fix_Sub.f bt120.1 a1).bind fun bt122 => (if bt122.2 = true then (if bt122.1 = a0 then (pledgelaw2_FixEdges.j0 k a0 t119 ((decide (bt120.1 < a0)) != (decide (a1 < 0)))) else (pledgelaw2_FixEdges.j0 k a0 t119 true)) else (pledgelaw2_FixEdges.j0 k a0 t119 true))) else (if bt120.1 = 0 then (pledgelaw2_FixEdges.j1 k a0 t119 ((decide (a0 ≥ 0)) != (decide (a1 ≥ 0)))) else (pledgelaw2_FixEdges.j1 k a0 t119 true)))) else (some false))
theorem pledgelaw2_FixEdges.mono_l : ∀ k, (∀ y0 y1 y2, LeO (pledgelaw2_FixEdges.j0 k y0 y1 y2) (pledgelaw2_FixEdges.j0 (k + 1) y0 y1 y2)) ∧ (∀ y0 y1 y2, LeO (pledgelaw2_FixEdges.j1 k y0 y1 y2) (pledgelaw2_FixEdges.j1 (k + 1) y0 y1 y2))
  | 0 => ⟨fun _ _ _ r h => by simp [pledgelaw2_FixEdges.j0] at h, fun _ _ _ r h => by simp [pledgelaw2_FixEdges.j1] at h⟩
  | k + 1 => by
    obtain ⟨ih0, ih1⟩ := pledgelaw2_FixEdges.mono_l k
    refine ⟨?_, ?_⟩
    · intro y0 y1 y2
      unfold pledgelaw2_FixEdges.j0
      repeat' first
      | (with_reducible exact ih0 _ _ _)
      | (with_reducible exact ih1 _ _ _)
      | (with_reducible exact pledgelaw2_first.mono _)
      | (with_reducible exact LeO.refl _)
      | (with_reducible exact LeO.none _)
      | (with_reducible refine LeO.ite ?_ ?_)
      | (with_reducible refine LeO.bind ?_ (fun _ => ?_))
      | exact ih0 _ _ _
      | exact ih1 _ _ _
      | exact pledgelaw2_first.mono _
      | exact LeO.none _
      | refine LeO.ite ?_ ?_
      | refine LeO.bind ?_ (fun _ => ?_)
    · intro y0 y1 y2
      unfold pledgelaw2_FixEdges.j1
      repeat' first
      | (with_reducible exact ih0 _ _ _)
      | (with_reducible exact ih1 _ _ _)
      | (with_reducible exact pledgelaw2_first.mono _)
      | (with_reducible exact LeO.refl _)
      | (with_reducible exact LeO.none _)
      | (with_reducible refine LeO.ite ?_ ?_)
      | (with_reducible refine LeO.bind ?_ (fun _ => ?_))
      | exact ih0 _ _ _
      | exact ih1 _ _ _
      | exact pledgelaw2_first.mono _
      | exact LeO.none _
      | refine LeO.ite ?_ ?_
      | refine LeO.bind ?_ (fun _ => ?_)
theorem pledgelaw2_FixEdges.mono : ∀ a0 a1 k, LeO (pledgelaw2_FixEdges.f k a0 a1) (pledgelaw2_FixEdges.f (k + 1) a0 a1) := by
  intro a0 a1 k
  obtain ⟨ih0, ih1⟩ := pledgelaw2_FixEdges.mono_l k
  unfold pledgelaw2_FixEdges.f
  repeat' first
      | (with_reducible exact ih0 _ _ _)
      | (with_reducible exact ih1 _ _ _)
      | (with_reducible exact pledgelaw2_first.mono _)
      | (with_reducible exact LeO.refl _)
      | (with_reducible exact LeO.none _)
      | (with_reducible refine LeO.ite ?_ ?_)
      | (with_reducible refine LeO.bind ?_ (fun _ => ?_))
      | exact ih0 _ _ _
      | exact ih1 _ _ _
      | exact pledgelaw2_first.mono _
      | exact LeO.none _
      | refine LeO.ite ?_ ?_
      | refine LeO.bind ?_ (fun _ => ?_)
set_option maxHeartbeats 8000000 in
set_option maxRecDepth 100000 in
theorem pledgelaw2_FixEdges.calls [Inhabited (Int → Addr)] (k : Nat) (a0 : Int) (a1 : Int) (r : Bool) (w : World) (hG : GlobOK w) (h : pledgelaw2_FixEdges.f k a0 a1 = some r) :
    Calls Try.prog 4 #[.int .i64 a0, .int .i64 a1] w fun e w' => e = .returned (.bool r) ∧ Below w.heap.size w w' := by
  have HG := Aside0.mk hG
  clear hG
  have HB := Aside0.mk (Below.refl w.heap.size w)
  have H : ((pledgelaw2_first.f k).bind fun t119 => (if t119 = true then ((fix_Add.f a0 a1).bind fun bt120 => (if bt120.2 = true then ((fix_Sub.f bt120.1 a1).bind fun bt122 => (if bt122.2 = true then (if bt122.1 = a0 then (pledgelaw2_FixEdges.j0 k a0 t119 ((decide (bt120.1 < a0)) != (decide (a1 < 0)))) else (pledgelaw2_FixEdges.j0 k a0 t119 true)) else (pledgelaw2_FixEdges.j0 k a0 t119 true))) else (if bt120.1 = 0 then (pledgelaw2_FixEdges.j1 k a0 t119 ((decide (a0 ≥ 0)) != (decide (a1 ≥ 0)))) else (pledgelaw2_FixEdges.j1 k a0 t119 true)))) else (some false))) = some r := h
  clear h
  replace H := Option.bind_eq_some_iff.mp H
  obtain ⟨t119, A30, H⟩ := H
  replace H : (if t119 = true then ((fix_Add.f a0 a1).bind fun bt120 => (if bt120.2 = true then ((fix_Sub.f bt120.1 a1).bind fun bt122 => (if bt122.2 = true then (if bt122.1 = a0 then (pledgelaw2_FixEdges.j0 k a0 t119 ((decide (bt120.1 < a0)) != (decide (a1 < 0)))) else (pledgelaw2_FixEdges.j0 k a0 t119 true)) else (pledgelaw2_FixEdges.j0 k a0 t119 true))) else (if bt120.1 = 0 then (pledgelaw2_FixEdges.j1 k a0 t119 ((decide (a0 ≥ 0)) != (decide (a1 ≥ 0)))) else (pledgelaw2_FixEdges.j1 k a0 t119 true)))) else (some false)) = some r := H
  have A3 := Aside0.mk A30
  clear A30
  by_cases c4 : t119 = true
  · subst c4
    have H1 : ((fix_Add.f a0 a1).bind fun bt120 => (if bt120.2 = true then ((fix_Sub.f bt120.1 a1).bind fun bt122 => (if bt122.2 = true then (if bt122.1 = a0 then (pledgelaw2_FixEdges.j0 k a0 true ((decide (bt120.1 < a0)) != (decide (a1 < 0)))) else (pledgelaw2_FixEdges.j0 k a0 true true)) else (pledgelaw2_FixEdges.j0 k a0 true true))) else (if bt120.1 = 0 then (pledgelaw2_FixEdges.j1 k a0 true ((decide (a0 ≥ 0)) != (decide (a1 ≥ 0)))) else (pledgelaw2_FixEdges.j1 k a0 true true)))) = some r := by rw [if_pos rfl] at H; exact H
    clear H
    have H := H1
    clear H1
    replace H := Option.bind_eq_some_iff.mp H
    obtain ⟨⟨t120, t121⟩, A50, H⟩ := H
    replace H : (if t121 = true then ((fix_Sub.f t120 a1).bind fun bt122 => (if bt122.2 = true then (if bt122.1 = a0 then (pledgelaw2_FixEdges.j0 k a0 true ((decide (t120 < a0)) != (decide (a1 < 0)))) else (pledgelaw2_FixEdges.j0 k a0 true true)) else (pledgelaw2_FixEdges.j0 k a0 true true))) else (if t120 = 0 then (pledgelaw2_FixEdges.j1 k a0 true ((decide (a0 ≥ 0)) != (decide (a1 ≥ 0)))) else (pledgelaw2_FixEdges.j1 k a0 true true))) = some r := H
    have A5 := Aside0.mk A50
    clear A50
    by_cases c6 : t121 = true
    · subst c6
      have H1 : ((fix_Sub.f t120 a1).bind fun bt122 => (if bt122.2 = true then (if bt122.1 = a0 then (pledgelaw2_FixEdges.j0 k a0 true ((decide (t120 < a0)) != (decide (a1 < 0)))) else (pledgelaw2_FixEdges.j0 k a0 true true)) else (pledgelaw2_FixEdges.j0 k a0 true true))) = some r := by rw [if_pos rfl] at H; exact H
      clear H
      have H := H1
      clear H1
      replace H := Option.bind_eq_some_iff.mp H
      obtain ⟨⟨t122, t123⟩, A70, H⟩ := H
      replace H : (if t123 = true then (if t122 = a0 then (pledgelaw2_FixEdges.j0 k a0 true ((decide (t120 < a0)) != (decide (a1 < 0)))) else (pledgelaw2_FixEdges.j0 k a0 true true)) else (pledgelaw2_FixEdges.j0 k a0 true true)) = some r := H
      have A7 := Aside0.mk A70
      clear A70
      have HC8 := Aside0.mk H
      clear H
      go_enter Try.func4, Try.ntmps4
      go_upto_region 7 with (first | ((with_reducible refine gate_callee (f := 8) rfl ?_); refine goesL_ (some 14) rfl rfl Try.func8 (by kernel_rfl) rfl #[] rfl (by (try simp only [List.map_toArray, List.map_cons, List.map_nil]); first | done | rfl | (simp only [List.length_drop, List.length_take]; rfl)) ?_; (with_reducible refine (pledgelaw2_first.calls k  true _ ?side1 A3.out).mono ?_); (case side1 => exact GlobOK.below HG.out (by repeat (first | (with_reducible first | exact HB.out | apply below_alloc | apply pw_below_drewN | apply below_drew1) | exact HB.out))); rintro e w9 ⟨rfl, hb⟩; refine ⟨_, rfl, ?_⟩; have n0_ := Aside0.mk (below_step (by repeat (first | (with_reducible first | exact HB.out | apply below_alloc | apply pw_below_drewN | apply below_drew1) | exact HB.out)) hb); clear HB; have HB := n0_; clear n0_; (try clear hb); (try clear hb2); (try clear hk); (try clear hi)) | ((with_reducible refine gate_callee (f := 10) rfl ?_); refine goesL_ (some 20) rfl rfl Try.func10 (by kernel_rfl) rfl #[.int .i64 a0, .int .i64 a1] rfl (by (try simp only [List.map_toArray, List.map_cons, List.map_nil]); first | done | rfl | (simp only [List.length_drop, List.length_take]; rfl)) ?_; (with_reducible refine (fix_Add.calls a0 a1 t120 true _ A5.out).mono ?_); rintro e w' ⟨rfl, ⟨nd, rfl⟩⟩; refine ⟨_, rfl, ?_⟩) | ((with_reducible refine gate_callee (f := 11) rfl ?_); refine goesL_ (some 27) rfl rfl Try.func11 (by kernel_rfl) rfl #[.int .i64 t120, .int .i64 a1] rfl (by (try simp only [List.map_toArray, List.map_cons, List.map_nil]); first | done | rfl | (simp only [List.length_drop, List.length_take]; rfl)) ?_; (with_reducible refine (fix_Sub.calls t120 a1 t122 t123 _ A7.out).mono ?_); rintro e w' ⟨rfl, ⟨nd, rfl⟩⟩; refine ⟨_, rfl, ?_⟩))
      (try simp only [Act.put, List.setIfInBounds_toArray, List.set_cons_zero, List.set_cons_succ])
      go_cut [44] (fun v44 wc => ∃ (kq : Nat) (x44_7 : Bool), v44 = .bool x44_7 ∧ Aside0 (pledgelaw2_FixEdges.j0 kq a0 true x44_7 = some r) ∧ Aside0 (kq ≤ k) ∧ Aside0 (Below w.heap.size w wc))
      case first =>
        have H := HC8.out
        clear HC8
        by_cases c10 : t123 = true
        · subst c10
          have H1 : (if t122 = a0 then (pledgelaw2_FixEdges.j0 k a0 true ((decide (t120 < a0)) != (decide (a1 < 0)))) else (pledgelaw2_FixEdges.j0 k a0 true true)) = some r := by rw [if_pos rfl] at H; exact H
          clear H
          have H := H1
          clear H1
          by_cases c11 : t122 = a0
          · rw [if_pos c11] at H
            have c11b0 : (t122 == a0) = true := beq_iff_eq.mpr c11
            have c11b1 : (t122 != a0) = false := bne_eq_false_iff_eq.mpr c11
            clear c11
            (first | rw [c11b0] | (simp only [i64_w, i32_w]; rw [c11b0]) | skip)
            have H' := Aside0.mk H
            clear H
            go_wp2
            go_meet
            case rel => exact ⟨_, (((decide (t120 < a0)) != (decide (a1 < 0)))), (by first | rfl | (simp; done) | (simp [*]; done)), H', ⟨by first | omega | exact Nat.le_refl _⟩, ⟨by repeat (first | (with_reducible first | exact HB.out | apply below_alloc | apply pw_below_drewN | apply below_drew1) | exact HB.out)⟩⟩
          · rw [if_neg c11] at H
            have c11b0 : (t122 == a0) = false := beq_eq_false_iff_ne.mpr c11
            have c11b1 : (t122 != a0) = true := bne_iff_ne.mpr c11
            (first | rw [c11b0] | (simp only [i64_w, i32_w]; rw [c11b0]) | skip)
            have H' := Aside0.mk H
            clear H
            go_wp2
            go_meet
            case rel => exact ⟨_, (true), (by first | rfl | (simp; done) | (simp [*]; done)), H', ⟨by first | omega | exact Nat.le_refl _⟩, ⟨by repeat (first | (with_reducible first | exact HB.out | apply below_alloc | apply pw_below_drewN | apply below_drew1) | exact HB.out)⟩⟩
        · replace c10 := Bool.eq_false_iff.mpr c10
          subst c10
          have H1 : (pledgelaw2_FixEdges.j0 k a0 true true) = some r := by rw [if_neg (show ¬ (false = true) by decide)] at H; exact H
          clear H
          have H := H1
          clear H1
          have H' := Aside0.mk H
          clear H
          go_wp2
          go_meet
          case rel => exact ⟨_, (true), (by first | rfl | (simp; done) | (simp [*]; done)), H', ⟨by first | omega | exact Nat.le_refl _⟩, ⟨by repeat (first | (with_reducible first | exact HB.out | apply below_alloc | apply pw_below_drewN | apply below_drew1) | exact HB.out)⟩⟩
      case rest =>
        clear HC8
        try clear c1
        try clear p2
        try clear c4
        try clear c6
        try clear c8
        try clear c10
        try clear c11
        try clear c11b0
        try clear c11b1
        obtain ⟨kq, x44_7, rfl, HA, HJ7, HB⟩ := hcut
        cases kq with
        | zero => exact absurd HA.out (by simp [pledgelaw2_FixEdges.j0])
        | succ kj7 =>
          have H := HA.out
          clear HA
          simp only [pledgelaw2_FixEdges.j0] at H
          by_cases c12 : x44_7 = true
          · subst c12
            have H1 : (some false) = some r := by rw [if_pos rfl] at H; exact H
            clear H
            have H := H1
            clear H1
            obtain rfl := Option.some.inj H
            go_wp2
            go_ret
            exact ⟨by first | rfl | (simp [errW_none, errW_some] <;> rfl) | (simp [*, errW_none, errW_some] <;> rfl), by repeat (first | (with_reducible first | exact HB.out | apply below_alloc | apply pw_below_drewN | apply below_drew1) | exact HB.out)⟩
          · replace c12 := Bool.eq_false_iff.mpr c12
            subst c12
            have H1 : ((fix_Add.f 9223372036854775807 a0).bind fun bt124 => ((fix_Sub.f (-9223372036854775808) a0).bind fun bt126 => (if true = true then (if (bt124.2 == (decide (a0 ≤ 0))) = true then (some (bt126.2 == (decide (a0 ≤ 0)))) else (some false)) else (some false)))) = some r := by rw [if_neg (show ¬ (false = true) by decide)] at H; exact H
            clear H
            have H := H1
            clear H1
            replace H := Option.bind_eq_some_iff.mp H
            obtain ⟨⟨t124, t125⟩, A130, H⟩ := H
            replace H : ((fix_Sub.f (-9223372036854775808) a0).bind fun bt126 => (if true = true then (if (t125 == (decide (a0 ≤ 0))) = true then (some (bt126.2 == (decide (a0 ≤ 0)))) else (some false)) else (some false))) = some r := H
            have A13 := Aside0.mk A130
            clear A130
            replace H := Option.bind_eq_some_iff.mp H
            obtain ⟨⟨t126, t127⟩, A140, H⟩ := H
            replace H : (if true = true then (if (t125 == (decide (a0 ≤ 0))) = true then (some (t127 == (decide (a0 ≤ 0)))) else (some false)) else (some false)) = some r := H
            have A14 := Aside0.mk A140
            clear A140
            have H1 : (if (t125 == (decide (a0 ≤ 0))) = true then (some (t127 == (decide (a0 ≤ 0)))) else (some false)) = some r := by rw [if_pos rfl] at H; exact H
            clear H
            have H := H1
            clear H1
            by_cases c15 : (t125 == (decide (a0 ≤ 0))) = true
            · rw [if_pos c15] at H
              have c15b0 : (t125 == (decide (a0 ≤ 0))) = true := c15
              (try (have c15b1 : decide (t125 = (decide (a0 ≤ 0))) = true := by simpa using c15))
              (try (have c15b2 : (t125 == (decide (a0 ≤ 0))) = true := by simpa using c15))
              clear c15
              obtain rfl := Option.some.inj H
              go_wp2_with (first | ((with_reducible refine gate_callee (f := 10) rfl ?_); refine goesL_ (some 56) rfl rfl Try.func10 (by kernel_rfl) rfl #[.int .i64 9223372036854775807, .int .i64 a0] rfl (by (try simp only [List.map_toArray, List.map_cons, List.map_nil]); first | done | rfl | (simp only [List.length_drop, List.length_take]; rfl)) ?_; (with_reducible refine (fix_Add.calls 9223372036854775807 a0 t124 t125 _ A13.out).mono ?_); rintro e w' ⟨rfl, ⟨nd, rfl⟩⟩; refine ⟨_, rfl, ?_⟩) | ((with_reducible refine gate_callee (f := 11) rfl ?_); refine goesL_ (some 61) rfl rfl Try.func11 (by kernel_rfl) rfl #[.int .i64 (-9223372036854775808), .int .i64 a0] rfl (by (try simp only [List.map_toArray, List.map_cons, List.map_nil]); first | done | rfl | (simp only [List.length_drop, List.length_take]; rfl)) ?_; (with_reducible refine (fix_Sub.calls (-9223372036854775808) a0 t126 t127 _ A14.out).mono ?_); rintro e w' ⟨rfl, ⟨nd, rfl⟩⟩; refine ⟨_, rfl, ?_⟩))
              go_ret
              exact ⟨by first | rfl | (simp [errW_none, errW_some] <;> rfl) | (simp [*, errW_none, errW_some] <;> rfl), by repeat (first | (with_reducible first | exact HB.out | apply below_alloc | apply pw_below_drewN | apply below_drew1) | exact HB.out)⟩
            · rw [if_neg c15] at H
              have c15b0 : (t125 == (decide (a0 ≤ 0))) = false := by simpa using c15
              (try (have c15b1 : decide (t125 = (decide (a0 ≤ 0))) = false := by simpa using c15))
              (try (have c15b2 : (t125 == (decide (a0 ≤ 0))) = false := by simpa using c15))
              (try (have c15b3 : ¬ (t125 = (decide (a0 ≤ 0))) := by simpa using c15))
              clear c15
              obtain rfl := Option.some.inj H
              go_wp2_with (first | ((with_reducible refine gate_callee (f := 10) rfl ?_); refine goesL_ (some 56) rfl rfl Try.func10 (by kernel_rfl) rfl #[.int .i64 9223372036854775807, .int .i64 a0] rfl (by (try simp only [List.map_toArray, List.map_cons, List.map_nil]); first | done | rfl | (simp only [List.length_drop, List.length_take]; rfl)) ?_; (with_reducible refine (fix_Add.calls 9223372036854775807 a0 t124 t125 _ A13.out).mono ?_); rintro e w' ⟨rfl, ⟨nd, rfl⟩⟩; refine ⟨_, rfl, ?_⟩) | ((with_reducible refine gate_callee (f := 11) rfl ?_); refine goesL_ (some 61) rfl rfl Try.func11 (by kernel_rfl) rfl #[.int .i64 (-9223372036854775808), .int .i64 a0] rfl (by (try simp only [List.map_toArray, List.map_cons, List.map_nil]); first | done | rfl | (simp only [List.length_drop, List.length_take]; rfl)) ?_; (with_reducible refine (fix_Sub.calls (-9223372036854775808) a0 t126 t127 _ A14.out).mono ?_); rintro e w' ⟨rfl, ⟨nd, rfl⟩⟩; refine ⟨_, rfl, ?_⟩))
              go_ret
              exact ⟨by first | rfl | (simp [errW_none, errW_some] <;> rfl) | (simp [*, errW_none, errW_some] <;> rfl), by repeat (first | (with_reducible first | exact HB.out | apply below_alloc | apply pw_below_drewN | apply below_drew1) | exact HB.out)⟩
    · replace c6 := Bool.eq_false_iff.mpr c6
      subst c6
      have H1 : (if t120 = 0 then (pledgelaw2_FixEdges.j1 k a0 true ((decide (a0 ≥ 0)) != (decide (a1 ≥ 0)))) else (pledgelaw2_FixEdges.j1 k a0 true true)) = some r := by rw [if_neg (show ¬ (false = true) by decide)] at H; exact H
      clear H
      have H := H1
      clear H1
      have HC16 := Aside0.mk H
      clear H
      go_enter Try.func4, Try.ntmps4
      go_upto_region 9 with (first | ((with_reducible refine gate_callee (f := 8) rfl ?_); refine goesL_ (some 14) rfl rfl Try.func8 (by kernel_rfl) rfl #[] rfl (by (try simp only [List.map_toArray, List.map_cons, List.map_nil]); first | done | rfl | (simp only [List.length_drop, List.length_take]; rfl)) ?_; (with_reducible refine (pledgelaw2_first.calls k  true _ ?side1 A3.out).mono ?_); (case side1 => exact GlobOK.below HG.out (by repeat (first | (with_reducible first | exact HB.out | apply below_alloc | apply pw_below_drewN | apply below_drew1) | exact HB.out))); rintro e w17 ⟨rfl, hb⟩; refine ⟨_, rfl, ?_⟩; have n0_ := Aside0.mk (below_step (by repeat (first | (with_reducible first | exact HB.out | apply below_alloc | apply pw_below_drewN | apply below_drew1) | exact HB.out)) hb); clear HB; have HB := n0_; clear n0_; (try clear hb); (try clear hb2); (try clear hk); (try clear hi)) | ((with_reducible refine gate_callee (f := 10) rfl ?_); refine goesL_ (some 20) rfl rfl Try.func10 (by kernel_rfl) rfl #[.int .i64 a0, .int .i64 a1] rfl (by (try simp only [List.map_toArray, List.map_cons, List.map_nil]); first | done | rfl | (simp only [List.length_drop, List.length_take]; rfl)) ?_; (with_reducible refine (fix_Add.calls a0 a1 t120 false _ A5.out).mono ?_); rintro e w' ⟨rfl, ⟨nd, rfl⟩⟩; refine ⟨_, rfl, ?_⟩))
      (try simp only [Act.put, List.setIfInBounds_toArray, List.set_cons_zero, List.set_cons_succ])
      go_cut [53] (fun v53 wc => ∃ (kq : Nat) (x53_15 : Bool), v53 = .bool x53_15 ∧ Aside0 (pledgelaw2_FixEdges.j1 kq a0 true x53_15 = some r) ∧ Aside0 (kq ≤ k) ∧ Aside0 (Below w.heap.size w wc))
      case first =>
        have H := HC16.out
        clear HC16
        by_cases c18 : t120 = 0
        · rw [if_pos c18] at H
          have c18b0 : (t120 == 0) = true := beq_iff_eq.mpr c18
          have c18b1 : (t120 != 0) = false := bne_eq_false_iff_eq.mpr c18
          clear c18
          (first | rw [c18b0] | (simp only [i64_w, i32_w]; rw [c18b0]) | skip)
          have H' := Aside0.mk H
          clear H
          go_wp2
          go_meet
          case rel => exact ⟨_, (((decide (a0 ≥ 0)) != (decide (a1 ≥ 0)))), (by first | rfl | (simp; done) | (simp [*]; done)), H', ⟨by first | omega | exact Nat.le_refl _⟩, ⟨by repeat (first | (with_reducible first | exact HB.out | apply below_alloc | apply pw_below_drewN | apply below_drew1) | exact HB.out)⟩⟩
        · rw [if_neg c18] at H
          have c18b0 : (t120 == 0) = false := beq_eq_false_iff_ne.mpr c18
          have c18b1 : (t120 != 0) = true := bne_iff_ne.mpr c18
          (first | rw [c18b0] | (simp only [i64_w, i32_w]; rw [c18b0]) | skip)
          have H' := Aside0.mk H
          clear H
          go_wp2
          go_meet
          case rel => exact ⟨_, (true), (by first | rfl | (simp; done) | (simp [*]; done)), H', ⟨by first | omega | exact Nat.le_refl _⟩, ⟨by repeat (first | (with_reducible first | exact HB.out | apply below_alloc | apply pw_below_drewN | apply below_drew1) | exact HB.out)⟩⟩
      case rest =>
        clear HC16
        try clear c1
        try clear p2
        try clear c4
        try clear c6
        try clear c8
        try clear c10
        try clear c11
        try clear c11b0
        try clear c11b1
        try clear c12
        try clear c15
        try clear c15b0
        try clear c15b1
        try clear c15b2
        try clear c18
        try clear c18b0
        try clear c18b1
        try clear p2
        obtain ⟨kq, x53_15, rfl, HA, HJ15, HB⟩ := hcut
        cases kq with
        | zero => exact absurd HA.out (by simp [pledgelaw2_FixEdges.j1])
        | succ kj15 =>
          have H := HA.out
          clear HA
          simp only [pledgelaw2_FixEdges.j1] at H
          by_cases c19 : x53_15 = true
          · subst c19
            have H1 : (some false) = some r := by rw [if_pos rfl] at H; exact H
            clear H
            have H := H1
            clear H1
            obtain rfl := Option.some.inj H
            go_wp2
            go_ret
            exact ⟨by first | rfl | (simp [errW_none, errW_some] <;> rfl) | (simp [*, errW_none, errW_some] <;> rfl), by repeat (first | (with_reducible first | exact HB.out | apply below_alloc | apply pw_below_drewN | apply below_drew1) | exact HB.out)⟩
          · replace c19 := Bool.eq_false_iff.mpr c19
            subst c19
            have H1 : ((fix_Add.f 9223372036854775807 a0).bind fun bt128 => ((fix_Sub.f (-9223372036854775808) a0).bind fun bt130 => (if true = true then (if (bt128.2 == (decide (a0 ≤ 0))) = true then (some (bt130.2 == (decide (a0 ≤ 0)))) else (some false)) else (some false)))) = some r := by rw [if_neg (show ¬ (false = true) by decide)] at H; exact H
            clear H
            have H := H1
            clear H1
            replace H := Option.bind_eq_some_iff.mp H
            obtain ⟨⟨t128, t129⟩, A200, H⟩ := H
            replace H : ((fix_Sub.f (-9223372036854775808) a0).bind fun bt130 => (if true = true then (if (t129 == (decide (a0 ≤ 0))) = true then (some (bt130.2 == (decide (a0 ≤ 0)))) else (some false)) else (some false))) = some r := H
            have A20 := Aside0.mk A200
            clear A200
            replace H := Option.bind_eq_some_iff.mp H
            obtain ⟨⟨t130, t131⟩, A210, H⟩ := H
            replace H : (if true = true then (if (t129 == (decide (a0 ≤ 0))) = true then (some (t131 == (decide (a0 ≤ 0)))) else (some false)) else (some false)) = some r := H
            have A21 := Aside0.mk A210
            clear A210
            have H1 : (if (t129 == (decide (a0 ≤ 0))) = true then (some (t131 == (decide (a0 ≤ 0)))) else (some false)) = some r := by rw [if_pos rfl] at H; exact H
            clear H
            have H := H1
            clear H1
            by_cases c22 : (t129 == (decide (a0 ≤ 0))) = true
            · rw [if_pos c22] at H
              have c22b0 : (t129 == (decide (a0 ≤ 0))) = true := c22
              (try (have c22b1 : decide (t129 = (decide (a0 ≤ 0))) = true := by simpa using c22))
              (try (have c22b2 : (t129 == (decide (a0 ≤ 0))) = true := by simpa using c22))
              clear c22
              obtain rfl := Option.some.inj H
              go_wp2_with (first | ((with_reducible refine gate_callee (f := 10) rfl ?_); refine goesL_ (some 56) rfl rfl Try.func10 (by kernel_rfl) rfl #[.int .i64 9223372036854775807, .int .i64 a0] rfl (by (try simp only [List.map_toArray, List.map_cons, List.map_nil]); first | done | rfl | (simp only [List.length_drop, List.length_take]; rfl)) ?_; (with_reducible refine (fix_Add.calls 9223372036854775807 a0 t128 t129 _ A20.out).mono ?_); rintro e w' ⟨rfl, ⟨nd, rfl⟩⟩; refine ⟨_, rfl, ?_⟩) | ((with_reducible refine gate_callee (f := 11) rfl ?_); refine goesL_ (some 61) rfl rfl Try.func11 (by kernel_rfl) rfl #[.int .i64 (-9223372036854775808), .int .i64 a0] rfl (by (try simp only [List.map_toArray, List.map_cons, List.map_nil]); first | done | rfl | (simp only [List.length_drop, List.length_take]; rfl)) ?_; (with_reducible refine (fix_Sub.calls (-9223372036854775808) a0 t130 t131 _ A21.out).mono ?_); rintro e w' ⟨rfl, ⟨nd, rfl⟩⟩; refine ⟨_, rfl, ?_⟩))
              go_ret
              exact ⟨by first | rfl | (simp [errW_none, errW_some] <;> rfl) | (simp [*, errW_none, errW_some] <;> rfl), by repeat (first | (with_reducible first | exact HB.out | apply below_alloc | apply pw_below_drewN | apply below_drew1) | exact HB.out)⟩
            · rw [if_neg c22] at H
              have c22b0 : (t129 == (decide (a0 ≤ 0))) = false := by simpa using c22
              (try (have c22b1 : decide (t129 = (decide (a0 ≤ 0))) = false := by simpa using c22))
              (try (have c22b2 : (t129 == (decide (a0 ≤ 0))) = false := by simpa using c22))
              (try (have c22b3 : ¬ (t129 = (decide (a0 ≤ 0))) := by simpa using c22))
              clear c22
              obtain rfl := Option.some.inj H
              go_wp2_with (first | ((with_reducible refine gate_callee (f := 10) rfl ?_); refine goesL_ (some 56) rfl rfl Try.func10 (by kernel_rfl) rfl #[.int .i64 9223372036854775807, .int .i64 a0] rfl (by (try simp only [List.map_toArray, List.map_cons, List.map_nil]); first | done | rfl | (simp only [List.length_drop, List.length_take]; rfl)) ?_; (with_reducible refine (fix_Add.calls 9223372036854775807 a0 t128 t129 _ A20.out).mono ?_); rintro e w' ⟨rfl, ⟨nd, rfl⟩⟩; refine ⟨_, rfl, ?_⟩) | ((with_reducible refine gate_callee (f := 11) rfl ?_); refine goesL_ (some 61) rfl rfl Try.func11 (by kernel_rfl) rfl #[.int .i64 (-9223372036854775808), .int .i64 a0] rfl (by (try simp only [List.map_toArray, List.map_cons, List.map_nil]); first | done | rfl | (simp only [List.length_drop, List.length_take]; rfl)) ?_; (with_reducible refine (fix_Sub.calls (-9223372036854775808) a0 t130 t131 _ A21.out).mono ?_); rintro e w' ⟨rfl, ⟨nd, rfl⟩⟩; refine ⟨_, rfl, ?_⟩))
              go_ret
              exact ⟨by first | rfl | (simp [errW_none, errW_some] <;> rfl) | (simp [*, errW_none, errW_some] <;> rfl), by repeat (first | (with_reducible first | exact HB.out | apply below_alloc | apply pw_below_drewN | apply below_drew1) | exact HB.out)⟩
  · replace c4 := Bool.eq_false_iff.mpr c4
    subst c4
    have H1 : (some false) = some r := by rw [if_neg (show ¬ (false = true) by decide)] at H; exact H
    clear H
    have H := H1
    clear H1
    obtain rfl := Option.some.inj H
    go_enter Try.func4, Try.ntmps4
    go_wp2_with (first | ((with_reducible refine gate_callee (f := 8) rfl ?_); refine goesL_ (some 14) rfl rfl Try.func8 (by kernel_rfl) rfl #[] rfl (by (try simp only [List.map_toArray, List.map_cons, List.map_nil]); first | done | rfl | (simp only [List.length_drop, List.length_take]; rfl)) ?_; (with_reducible refine (pledgelaw2_first.calls k  false _ ?side1 A3.out).mono ?_); (case side1 => exact GlobOK.below HG.out (by repeat (first | (with_reducible first | exact HB.out | apply below_alloc | apply pw_below_drewN | apply below_drew1) | exact HB.out))); rintro e w23 ⟨rfl, hb⟩; refine ⟨_, rfl, ?_⟩; have n0_ := Aside0.mk (below_step (by repeat (first | (with_reducible first | exact HB.out | apply below_alloc | apply pw_below_drewN | apply below_drew1) | exact HB.out)) hb); clear HB; have HB := n0_; clear n0_; (try clear hb); (try clear hb2); (try clear hk); (try clear hi)))
    go_ret
    exact ⟨by first | rfl | (simp [errW_none, errW_some] <;> rfl) | (simp [*, errW_none, errW_some] <;> rfl), by repeat (first | (with_reducible first | exact HB.out | apply below_alloc | apply pw_below_drewN | apply below_drew1) | exact HB.out)⟩

/-- The pure statement of pledgelaw2_FixEdges: numbers and lists alone. -/
def pledgelaw2_FixEdges.Pure : Prop := ∀ (a0 : Int) (a1 : Int), Rng .i64 a0 → Rng .i64 a1 → ∃ k, pledgelaw2_FixEdges.f k a0 a1 = some true

end Go.Proofs.Ytjfemoebahnbnaa.EFixEdges
