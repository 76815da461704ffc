/- The functions that the law comes to, as plain functions, and for each a proof that the Go code comes to just these answers. Written by a program of this claim. Conditions: each theorem bears its own. -/
import Derived.Test.YtjfemoebahnbnaaEFixSmallx0
import Derived.Test.YtjfemoebahnbnaaEFixSmallx2
namespace Go.Proofs.Ytjfemoebahnbnaa.EFixSmall
open Go.RowKit Go.Proofs.YtjfemoebahnbnaaW.PrintWords Go.Proofs.YtjfemoebahnbnaaW.PrintLast Go.Proofs.YtjfemoebahnbnaaW.PrintMore Go.Proofs.YtjfemoebahnbnaaW.PrintOpen
attribute [local go_sem] max2_int min2_int max_two min_two max_three min_three max_four min_four   -- for this text's walks alone
set_option linter.unusedVariables false
set_option linter.unusedSimpArgs false

/-! ### pledgelaw2_FixSmall: function 5 -/
def pledgelaw2_FixSmall.j0 : Nat → Int → Bool → Bool → Int → Int → Bool → Option (Bool)
  | 0, _, _, _, _, _, _ => none
  | k + 1, x2, x3, x9, x10, x11, x77 => if x77 = true then (some false) else ((fix_Div.f k x10 x11 (wrap64 (x2)) x3).bind fun bt128 => (if x2 ≤ 0 then (if x9 = true then (if bt128.2 = true then (some false) else (some (bt128.1 == 0))) else (some false)) else (if x3 = true then (if x9 = true then (if bt128.2 = true then (if (wrap64 (bt128.1 * (wrap64 (x2)))) ≥ (wrap64 (x10 * x11)) then (some (decide ((wrap64 ((wrap64 (bt128.1 * (wrap64 (x2)))) - (wrap64 (x2)))) < (wrap64 (x10 * x11))))) else (some false)) else (some false)) else (some false)) else (if x9 = true then (if bt128.2 = true then (if (wrap64 (bt128.1 * (wrap64 (x2)))) ≤ (wrap64 (x10 * x11)) then (some (decide ((wrap64 ((wrap64 (bt128.1 * (wrap64 (x2)))) + (wrap64 (x2)))) > (wrap64 (x10 * x11))))) else (some false)) else (some false)) else (some false)))))
def pledgelaw2_FixSmall.f (k : Nat) (a0 : Int) (a1 : Int) (a2 : Int) (a3 : Bool) : Option (Bool) := (pledgelaw2_first.f k).bind fun t121 => (if t121 = true then ((fix_Mul.f k (wrap64 (a0)) (wrap64 (a1))).bind fun bt122 => ((fix_Add.f (wrap64 (a0)) (wrap64 (a1))).bind fun bt124 => ((fix_Sub.f (wrap64 (a0)) (wrap64 (a1))).bind fun bt126 => (if bt122.2 = true then (if bt124.2 = true then (if bt126.2 = true then (if bt122.1 = (wrap64 ((wrap64 (a0)) * (wrap64 (a1)))) then (if bt124.1 = (wrap64 ((wrap64 (a0)) + (wrap64 (a1)))) then (pledgelaw2_FixSmall.j0 k a2 a3 t121 (wrap64 (a0)) (wrap64 (a1)) (bt126.1 != (wrap64 ((wrap64 (a0)) - (wrap64 (a1)))))) else (pledgelaw2_FixSmall.j0 k a2 a3 t121 (wrap64 (a0)) (wrap64 (a1)) true)) else (pledgelaw2_FixSmall.j0 k a2 a3 t121 (wrap64 (a0)) (wrap64 (a1)) true)) else (pledgelaw2_FixSmall.j0 k a2 a3 t121 (wrap64 (a0)) (wrap64 (a1)) true)) else (pledgelaw2_FixSmall.j0 k a2 a3 t121 (wrap64 (a0)) (wrap64 (a1)) true)) else (pledgelaw2_FixSmall.j0 k a2 a3 t121 (wrap64 (a0)) (wrap64 (a1)) true))))) else (some false))
theorem pledgelaw2_FixSmall.mono_l : ∀ k, (∀ y0 y1 y2 y3 y4 y5, LeO (pledgelaw2_FixSmall.j0 k y0 y1 y2 y3 y4 y5) (pledgelaw2_FixSmall.j0 (k + 1) y0 y1 y2 y3 y4 y5))
  | 0 => fun _ _ _ _ _ _ r h => by simp [pledgelaw2_FixSmall.j0] at h
  | k + 1 => by
    have ih0 := pledgelaw2_FixSmall.mono_l k
    · intro y0 y1 y2 y3 y4 y5
      unfold pledgelaw2_FixSmall.j0
      repeat' first
      | (with_reducible exact ih0 _ _ _ _ _ _)
      | (with_reducible exact fix_Div.mono _ _ _ _ _)
      | (with_reducible exact fix_Mul.mono _ _ _)
      | (with_reducible exact pledgelaw2_first.mono _)
      | (with_reducible exact LeO.refl _)
      | (with_reducible exact LeO.none _)
      | (with_reducible refine LeO.ite ?_ ?_)
      | (with_reducible refine LeO.bind ?_ (fun _ => ?_))
      | exact ih0 _ _ _ _ _ _
      | exact fix_Div.mono _ _ _ _ _
      | exact fix_Mul.mono _ _ _
      | exact pledgelaw2_first.mono _
      | exact LeO.none _
      | refine LeO.ite ?_ ?_
      | refine LeO.bind ?_ (fun _ => ?_)
theorem pledgelaw2_FixSmall.mono : ∀ a0 a1 a2 a3 k, LeO (pledgelaw2_FixSmall.f k a0 a1 a2 a3) (pledgelaw2_FixSmall.f (k + 1) a0 a1 a2 a3) := by
  intro a0 a1 a2 a3 k
  have ih0 := pledgelaw2_FixSmall.mono_l k
  unfold pledgelaw2_FixSmall.f
  repeat' first
      | (with_reducible exact ih0 _ _ _ _ _ _)
      | (with_reducible exact fix_Div.mono _ _ _ _ _)
      | (with_reducible exact fix_Mul.mono _ _ _)
      | (with_reducible exact pledgelaw2_first.mono _)
      | (with_reducible exact LeO.refl _)
      | (with_reducible exact LeO.none _)
      | (with_reducible refine LeO.ite ?_ ?_)
      | (with_reducible refine LeO.bind ?_ (fun _ => ?_))
      | exact ih0 _ _ _ _ _ _
      | exact fix_Div.mono _ _ _ _ _
      | exact fix_Mul.mono _ _ _
      | exact pledgelaw2_first.mono _
      | exact LeO.none _
      | refine LeO.ite ?_ ?_
      | refine LeO.bind ?_ (fun _ => ?_)
set_option maxHeartbeats 8000000 in
set_option maxRecDepth 100000 in
theorem pledgelaw2_FixSmall.calls [Inhabited (Int → Addr)] (k : Nat) (a0 : Int) (a1 : Int) (a2 : Int) (a3 : Bool) (r : Bool) (w : World) (hG : GlobOK w) (h : pledgelaw2_FixSmall.f k a0 a1 a2 a3 = some r) :
    Calls Try.prog 5 #[.int .i32 a0, .int .i32 a1, .int .i32 a2, .bool a3] w fun e w' => e = .returned (.bool r) ∧ Below w.heap.size w w' := by
  have HG := Aside0.mk hG
  clear hG
  have HB := Aside0.mk (Below.refl w.heap.size w)
  have H : ((pledgelaw2_first.f k).bind fun t121 => (if t121 = true then ((fix_Mul.f k (wrap64 (a0)) (wrap64 (a1))).bind fun bt122 => ((fix_Add.f (wrap64 (a0)) (wrap64 (a1))).bind fun bt124 => ((fix_Sub.f (wrap64 (a0)) (wrap64 (a1))).bind fun bt126 => (if bt122.2 = true then (if bt124.2 = true then (if bt126.2 = true then (if bt122.1 = (wrap64 ((wrap64 (a0)) * (wrap64 (a1)))) then (if bt124.1 = (wrap64 ((wrap64 (a0)) + (wrap64 (a1)))) then (pledgelaw2_FixSmall.j0 k a2 a3 t121 (wrap64 (a0)) (wrap64 (a1)) (bt126.1 != (wrap64 ((wrap64 (a0)) - (wrap64 (a1)))))) else (pledgelaw2_FixSmall.j0 k a2 a3 t121 (wrap64 (a0)) (wrap64 (a1)) true)) else (pledgelaw2_FixSmall.j0 k a2 a3 t121 (wrap64 (a0)) (wrap64 (a1)) true)) else (pledgelaw2_FixSmall.j0 k a2 a3 t121 (wrap64 (a0)) (wrap64 (a1)) true)) else (pledgelaw2_FixSmall.j0 k a2 a3 t121 (wrap64 (a0)) (wrap64 (a1)) true)) else (pledgelaw2_FixSmall.j0 k a2 a3 t121 (wrap64 (a0)) (wrap64 (a1)) true))))) else (some false))) = some r := h
  clear h
  replace H := Option.bind_eq_some_iff.mp H
  obtain ⟨t121, A50, H⟩ := H
  replace H : (if t121 = true then ((fix_Mul.f k (wrap64 (a0)) (wrap64 (a1))).bind fun bt122 => ((fix_Add.f (wrap64 (a0)) (wrap64 (a1))).bind fun bt124 => ((fix_Sub.f (wrap64 (a0)) (wrap64 (a1))).bind fun bt126 => (if bt122.2 = true then (if bt124.2 = true then (if bt126.2 = true then (if bt122.1 = (wrap64 ((wrap64 (a0)) * (wrap64 (a1)))) then (if bt124.1 = (wrap64 ((wrap64 (a0)) + (wrap64 (a1)))) then (pledgelaw2_FixSmall.j0 k a2 a3 t121 (wrap64 (a0)) (wrap64 (a1)) (bt126.1 != (wrap64 ((wrap64 (a0)) - (wrap64 (a1)))))) else (pledgelaw2_FixSmall.j0 k a2 a3 t121 (wrap64 (a0)) (wrap64 (a1)) true)) else (pledgelaw2_FixSmall.j0 k a2 a3 t121 (wrap64 (a0)) (wrap64 (a1)) true)) else (pledgelaw2_FixSmall.j0 k a2 a3 t121 (wrap64 (a0)) (wrap64 (a1)) true)) else (pledgelaw2_FixSmall.j0 k a2 a3 t121 (wrap64 (a0)) (wrap64 (a1)) true)) else (pledgelaw2_FixSmall.j0 k a2 a3 t121 (wrap64 (a0)) (wrap64 (a1)) true))))) else (some false)) = some r := H
  have A5 := Aside0.mk A50
  clear A50
  by_cases c6 : t121 = true
  · subst c6
    have H1 : ((fix_Mul.f k (wrap64 (a0)) (wrap64 (a1))).bind fun bt122 => ((fix_Add.f (wrap64 (a0)) (wrap64 (a1))).bind fun bt124 => ((fix_Sub.f (wrap64 (a0)) (wrap64 (a1))).bind fun bt126 => (if bt122.2 = true then (if bt124.2 = true then (if bt126.2 = true then (if bt122.1 = (wrap64 ((wrap64 (a0)) * (wrap64 (a1)))) then (if bt124.1 = (wrap64 ((wrap64 (a0)) + (wrap64 (a1)))) then (pledgelaw2_FixSmall.j0 k a2 a3 true (wrap64 (a0)) (wrap64 (a1)) (bt126.1 != (wrap64 ((wrap64 (a0)) - (wrap64 (a1)))))) else (pledgelaw2_FixSmall.j0 k a2 a3 true (wrap64 (a0)) (wrap64 (a1)) true)) else (pledgelaw2_FixSmall.j0 k a2 a3 true (wrap64 (a0)) (wrap64 (a1)) true)) else (pledgelaw2_FixSmall.j0 k a2 a3 true (wrap64 (a0)) (wrap64 (a1)) true)) else (pledgelaw2_FixSmall.j0 k a2 a3 true (wrap64 (a0)) (wrap64 (a1)) true)) else (pledgelaw2_FixSmall.j0 k a2 a3 true (wrap64 (a0)) (wrap64 (a1)) true))))) = some r := by rw [if_pos rfl] at H; exact H
    clear H
    have H := H1
    clear H1
    replace H := Option.bind_eq_some_iff.mp H
    obtain ⟨⟨t122, t123⟩, A70, H⟩ := H
    replace H : ((fix_Add.f (wrap64 (a0)) (wrap64 (a1))).bind fun bt124 => ((fix_Sub.f (wrap64 (a0)) (wrap64 (a1))).bind fun bt126 => (if t123 = true then (if bt124.2 = true then (if bt126.2 = true then (if t122 = (wrap64 ((wrap64 (a0)) * (wrap64 (a1)))) then (if bt124.1 = (wrap64 ((wrap64 (a0)) + (wrap64 (a1)))) then (pledgelaw2_FixSmall.j0 k a2 a3 true (wrap64 (a0)) (wrap64 (a1)) (bt126.1 != (wrap64 ((wrap64 (a0)) - (wrap64 (a1)))))) else (pledgelaw2_FixSmall.j0 k a2 a3 true (wrap64 (a0)) (wrap64 (a1)) true)) else (pledgelaw2_FixSmall.j0 k a2 a3 true (wrap64 (a0)) (wrap64 (a1)) true)) else (pledgelaw2_FixSmall.j0 k a2 a3 true (wrap64 (a0)) (wrap64 (a1)) true)) else (pledgelaw2_FixSmall.j0 k a2 a3 true (wrap64 (a0)) (wrap64 (a1)) true)) else (pledgelaw2_FixSmall.j0 k a2 a3 true (wrap64 (a0)) (wrap64 (a1)) true)))) = some r := H
    have A7 := Aside0.mk A70
    clear A70
    replace H := Option.bind_eq_some_iff.mp H
    obtain ⟨⟨t124, t125⟩, A80, H⟩ := H
    replace H : ((fix_Sub.f (wrap64 (a0)) (wrap64 (a1))).bind fun bt126 => (if t123 = true then (if t125 = true then (if bt126.2 = true then (if t122 = (wrap64 ((wrap64 (a0)) * (wrap64 (a1)))) then (if t124 = (wrap64 ((wrap64 (a0)) + (wrap64 (a1)))) then (pledgelaw2_FixSmall.j0 k a2 a3 true (wrap64 (a0)) (wrap64 (a1)) (bt126.1 != (wrap64 ((wrap64 (a0)) - (wrap64 (a1)))))) else (pledgelaw2_FixSmall.j0 k a2 a3 true (wrap64 (a0)) (wrap64 (a1)) true)) else (pledgelaw2_FixSmall.j0 k a2 a3 true (wrap64 (a0)) (wrap64 (a1)) true)) else (pledgelaw2_FixSmall.j0 k a2 a3 true (wrap64 (a0)) (wrap64 (a1)) true)) else (pledgelaw2_FixSmall.j0 k a2 a3 true (wrap64 (a0)) (wrap64 (a1)) true)) else (pledgelaw2_FixSmall.j0 k a2 a3 true (wrap64 (a0)) (wrap64 (a1)) true))) = some r := H
    have A8 := Aside0.mk A80
    clear A80
    replace H := Option.bind_eq_some_iff.mp H
    obtain ⟨⟨t126, t127⟩, A90, H⟩ := H
    replace H : (if t123 = true then (if t125 = true then (if t127 = true then (if t122 = (wrap64 ((wrap64 (a0)) * (wrap64 (a1)))) then (if t124 = (wrap64 ((wrap64 (a0)) + (wrap64 (a1)))) then (pledgelaw2_FixSmall.j0 k a2 a3 true (wrap64 (a0)) (wrap64 (a1)) (t126 != (wrap64 ((wrap64 (a0)) - (wrap64 (a1)))))) else (pledgelaw2_FixSmall.j0 k a2 a3 true (wrap64 (a0)) (wrap64 (a1)) true)) else (pledgelaw2_FixSmall.j0 k a2 a3 true (wrap64 (a0)) (wrap64 (a1)) true)) else (pledgelaw2_FixSmall.j0 k a2 a3 true (wrap64 (a0)) (wrap64 (a1)) true)) else (pledgelaw2_FixSmall.j0 k a2 a3 true (wrap64 (a0)) (wrap64 (a1)) true)) else (pledgelaw2_FixSmall.j0 k a2 a3 true (wrap64 (a0)) (wrap64 (a1)) true)) = some r := H
    have A9 := Aside0.mk A90
    clear A90
    have HC10 := Aside0.mk H
    clear H
    go_enter Try.func5, Try.ntmps5
    go_upto_region 9 with (first | ((with_reducible refine gate_callee (f := 8) rfl ?_); refine goesL_ (some 22) rfl rfl Try.func8 (by kernel_rfl) rfl #[] rfl (by (try simp only [List.map_toArray, List.map_cons, List.map_nil]); first | done | rfl | (simp only [List.length_drop, List.length_take]; rfl)) ?_; (with_reducible refine (pledgelaw2_first.calls k  true _ ?side1 A5.out).mono ?_); (case side1 => exact GlobOK.below HG.out (by repeat (first | (with_reducible first | exact HB.out | apply below_alloc | apply pw_below_drewN | apply below_drew1) | exact HB.out))); rintro e w11 ⟨rfl, hb⟩; refine ⟨_, rfl, ?_⟩; have n0_ := Aside0.mk (below_step (by repeat (first | (with_reducible first | exact HB.out | apply below_alloc | apply pw_below_drewN | apply below_drew1) | exact HB.out)) hb); clear HB; have HB := n0_; clear n0_; (try clear hb); (try clear hb2); (try clear hk); (try clear hi)) | ((with_reducible refine gate_callee (f := 12) rfl ?_); refine goesL_ (some 32) rfl rfl Try.func12 (by kernel_rfl) rfl #[.int .i64 (wrap64 (a0)), .int .i64 (wrap64 (a1))] rfl (by (try simp only [List.map_toArray, List.map_cons, List.map_nil]); first | done | rfl | (simp only [List.length_drop, List.length_take]; rfl)) ?_; (with_reducible refine (fix_Mul.calls k (wrap64 (a0)) (wrap64 (a1)) t122 t123 _ ?side1 A7.out).mono ?_); (case side1 => exact GlobOK.below HG.out (by repeat (first | (with_reducible first | exact HB.out | apply below_alloc | apply pw_below_drewN | apply below_drew1) | exact HB.out))); rintro e w12 ⟨rfl, hb⟩; refine ⟨_, rfl, ?_⟩; have n0_ := Aside0.mk (below_step (by repeat (first | (with_reducible first | exact HB.out | apply below_alloc | apply pw_below_drewN | apply below_drew1) | exact HB.out)) hb); clear HB; have HB := n0_; clear n0_; (try clear hb); (try clear hb2); (try clear hk); (try clear hi)) | ((with_reducible refine gate_callee (f := 10) rfl ?_); refine goesL_ (some 38) rfl rfl Try.func10 (by kernel_rfl) rfl #[.int .i64 (wrap64 (a0)), .int .i64 (wrap64 (a1))] rfl (by (try simp only [List.map_toArray, List.map_cons, List.map_nil]); first | done | rfl | (simp only [List.length_drop, List.length_take]; rfl)) ?_; (with_reducible refine (fix_Add.calls (wrap64 (a0)) (wrap64 (a1)) t124 t125 _ A8.out).mono ?_); rintro e w' ⟨rfl, ⟨nd, rfl⟩⟩; refine ⟨_, rfl, ?_⟩) | ((with_reducible refine gate_callee (f := 11) rfl ?_); refine goesL_ (some 44) rfl rfl Try.func11 (by kernel_rfl) rfl #[.int .i64 (wrap64 (a0)), .int .i64 (wrap64 (a1))] rfl (by (try simp only [List.map_toArray, List.map_cons, List.map_nil]); first | done | rfl | (simp only [List.length_drop, List.length_take]; rfl)) ?_; (with_reducible refine (fix_Sub.calls (wrap64 (a0)) (wrap64 (a1)) t126 t127 _ A9.out).mono ?_); rintro e w' ⟨rfl, ⟨nd, rfl⟩⟩; refine ⟨_, rfl, ?_⟩))
    (try simp only [Act.put, List.setIfInBounds_toArray, List.set_cons_zero, List.set_cons_succ])
    go_cut [77] (fun v77 wc => ∃ (kq : Nat) (x77_9 : Bool), v77 = .bool x77_9 ∧ Aside0 (pledgelaw2_FixSmall.j0 kq a2 a3 true (wrap64 (a0)) (wrap64 (a1)) x77_9 = some r) ∧ Aside0 (kq ≤ k) ∧ Aside0 (Below w.heap.size w wc))
    case first =>
      have H := HC10.out
      clear HC10
      by_cases c13 : t123 = true
      · subst c13
        have H1 : (if t125 = true then (if t127 = true then (if t122 = (wrap64 ((wrap64 (a0)) * (wrap64 (a1)))) then (if t124 = (wrap64 ((wrap64 (a0)) + (wrap64 (a1)))) then (pledgelaw2_FixSmall.j0 k a2 a3 true (wrap64 (a0)) (wrap64 (a1)) (t126 != (wrap64 ((wrap64 (a0)) - (wrap64 (a1)))))) else (pledgelaw2_FixSmall.j0 k a2 a3 true (wrap64 (a0)) (wrap64 (a1)) true)) else (pledgelaw2_FixSmall.j0 k a2 a3 true (wrap64 (a0)) (wrap64 (a1)) true)) else (pledgelaw2_FixSmall.j0 k a2 a3 true (wrap64 (a0)) (wrap64 (a1)) true)) else (pledgelaw2_FixSmall.j0 k a2 a3 true (wrap64 (a0)) (wrap64 (a1)) true)) = some r := by rw [if_pos rfl] at H; exact H
        clear H
        have H := H1
        clear H1
        by_cases c14 : t125 = true
        · subst c14
          have H1 : (if t127 = true then (if t122 = (wrap64 ((wrap64 (a0)) * (wrap64 (a1)))) then (if t124 = (wrap64 ((wrap64 (a0)) + (wrap64 (a1)))) then (pledgelaw2_FixSmall.j0 k a2 a3 true (wrap64 (a0)) (wrap64 (a1)) (t126 != (wrap64 ((wrap64 (a0)) - (wrap64 (a1)))))) else (pledgelaw2_FixSmall.j0 k a2 a3 true (wrap64 (a0)) (wrap64 (a1)) true)) else (pledgelaw2_FixSmall.j0 k a2 a3 true (wrap64 (a0)) (wrap64 (a1)) true)) else (pledgelaw2_FixSmall.j0 k a2 a3 true (wrap64 (a0)) (wrap64 (a1)) true)) = some r := by rw [if_pos rfl] at H; exact H
          clear H
          have H := H1
          clear H1
          by_cases c15 : t127 = true
          · subst c15
            have H1 : (if t122 = (wrap64 ((wrap64 (a0)) * (wrap64 (a1)))) then (if t124 = (wrap64 ((wrap64 (a0)) + (wrap64 (a1)))) then (pledgelaw2_FixSmall.j0 k a2 a3 true (wrap64 (a0)) (wrap64 (a1)) (t126 != (wrap64 ((wrap64 (a0)) - (wrap64 (a1)))))) else (pledgelaw2_FixSmall.j0 k a2 a3 true (wrap64 (a0)) (wrap64 (a1)) true)) else (pledgelaw2_FixSmall.j0 k a2 a3 true (wrap64 (a0)) (wrap64 (a1)) true)) = some r := by rw [if_pos rfl] at H; exact H
            clear H
            have H := H1
            clear H1
            by_cases c16 : t122 = (wrap64 ((wrap64 (a0)) * (wrap64 (a1))))
            · rw [if_pos c16] at H
              have c16b0 : (t122 == (wrap64 ((wrap64 (a0)) * (wrap64 (a1))))) = true := beq_iff_eq.mpr c16
              have c16b1 : (t122 != (wrap64 ((wrap64 (a0)) * (wrap64 (a1))))) = false := bne_eq_false_iff_eq.mpr c16
              clear c16
              (first | rw [c16b0] | (simp only [i64_w, i32_w]; rw [c16b0]) | skip)
              by_cases c17 : t124 = (wrap64 ((wrap64 (a0)) + (wrap64 (a1))))
              · rw [if_pos c17] at H
                have c17b0 : (t124 == (wrap64 ((wrap64 (a0)) + (wrap64 (a1))))) = true := beq_iff_eq.mpr c17
                have c17b1 : (t124 != (wrap64 ((wrap64 (a0)) + (wrap64 (a1))))) = false := bne_eq_false_iff_eq.mpr c17
                clear c17
                have H' := Aside0.mk H
                clear H
                go_wp2
                go_meet
                case rel => exact ⟨_, ((t126 != (wrap64 ((wrap64 (a0)) - (wrap64 (a1)))))), (by first | rfl | (simp; done) | (simp [*]; done)), H', ⟨by first | omega | exact Nat.le_refl _⟩, ⟨by repeat (first | (with_reducible first | exact HB.out | apply below_alloc | apply pw_below_drewN | apply below_drew1) | exact HB.out)⟩⟩
              · rw [if_neg c17] at H
                have c17b0 : (t124 == (wrap64 ((wrap64 (a0)) + (wrap64 (a1))))) = false := beq_eq_false_iff_ne.mpr c17
                have c17b1 : (t124 != (wrap64 ((wrap64 (a0)) + (wrap64 (a1))))) = true := bne_iff_ne.mpr c17
                have H' := Aside0.mk H
                clear H
                go_wp2
                go_meet
                case rel => exact ⟨_, (true), (by first | rfl | (simp; done) | (simp [*]; done)), H', ⟨by first | omega | exact Nat.le_refl _⟩, ⟨by repeat (first | (with_reducible first | exact HB.out | apply below_alloc | apply pw_below_drewN | apply below_drew1) | exact HB.out)⟩⟩
            · rw [if_neg c16] at H
              have c16b0 : (t122 == (wrap64 ((wrap64 (a0)) * (wrap64 (a1))))) = false := beq_eq_false_iff_ne.mpr c16
              have c16b1 : (t122 != (wrap64 ((wrap64 (a0)) * (wrap64 (a1))))) = true := bne_iff_ne.mpr c16
              (first | rw [c16b0] | (simp only [i64_w, i32_w]; rw [c16b0]) | skip)
              have H' := Aside0.mk H
              clear H
              go_wp2
              go_meet
              case rel => exact ⟨_, (true), (by first | rfl | (simp; done) | (simp [*]; done)), H', ⟨by first | omega | exact Nat.le_refl _⟩, ⟨by repeat (first | (with_reducible first | exact HB.out | apply below_alloc | apply pw_below_drewN | apply below_drew1) | exact HB.out)⟩⟩
          · replace c15 := Bool.eq_false_iff.mpr c15
            subst c15
            have H1 : (pledgelaw2_FixSmall.j0 k a2 a3 true (wrap64 (a0)) (wrap64 (a1)) true) = some r := by rw [if_neg (show ¬ (false = true) by decide)] at H; exact H
            clear H
            have H := H1
            clear H1
            have H' := Aside0.mk H
            clear H
            go_wp2
            go_meet
            case rel => exact ⟨_, (true), (by first | rfl | (simp; done) | (simp [*]; done)), H', ⟨by first | omega | exact Nat.le_refl _⟩, ⟨by repeat (first | (with_reducible first | exact HB.out | apply below_alloc | apply pw_below_drewN | apply below_drew1) | exact HB.out)⟩⟩
        · replace c14 := Bool.eq_false_iff.mpr c14
          subst c14
          have H1 : (pledgelaw2_FixSmall.j0 k a2 a3 true (wrap64 (a0)) (wrap64 (a1)) true) = some r := by rw [if_neg (show ¬ (false = true) by decide)] at H; exact H
          clear H
          have H := H1
          clear H1
          have H' := Aside0.mk H
          clear H
          go_wp2
          go_meet
          case rel => exact ⟨_, (true), (by first | rfl | (simp; done) | (simp [*]; done)), H', ⟨by first | omega | exact Nat.le_refl _⟩, ⟨by repeat (first | (with_reducible first | exact HB.out | apply below_alloc | apply pw_below_drewN | apply below_drew1) | exact HB.out)⟩⟩
      · replace c13 := Bool.eq_false_iff.mpr c13
        subst c13
        have H1 : (pledgelaw2_FixSmall.j0 k a2 a3 true (wrap64 (a0)) (wrap64 (a1)) true) = some r := by rw [if_neg (show ¬ (false = true) by decide)] at H; exact H
        clear H
        have H := H1
        clear H1
        have H' := Aside0.mk H
        clear H
        go_wp2
        go_meet
        case rel => exact ⟨_, (true), (by first | rfl | (simp; done) | (simp [*]; done)), H', ⟨by first | omega | exact Nat.le_refl _⟩, ⟨by repeat (first | (with_reducible first | exact HB.out | apply below_alloc | apply pw_below_drewN | apply below_drew1) | exact HB.out)⟩⟩
    case rest =>
      clear HC10
      try clear c1
      try clear p2
      try clear c5
      try clear c6
      try clear p6
      try clear c8
      try clear c10
      try clear c11
      try clear c12
      try clear c13
      try clear c14
      try clear c15
      try clear c16
      try clear c16b0
      try clear c16b1
      try clear c17
      try clear c17b0
      try clear c17b1
      obtain ⟨kq, x77_9, rfl, HA, HJ9, HB⟩ := hcut
      cases kq with
      | zero => exact absurd HA.out (by simp [pledgelaw2_FixSmall.j0])
      | succ kj9 =>
        have H := HA.out
        clear HA
        simp only [pledgelaw2_FixSmall.j0] at H
        by_cases c18 : x77_9 = true
        · subst c18
          have H1 : (some false) = some r := by rw [if_pos rfl] at H; exact H
          clear H
          have H := H1
          clear H1
          obtain rfl := Option.some.inj H
          go_wp2
          go_ret
          exact ⟨by first | rfl | (simp [errW_none, errW_some] <;> rfl) | (simp [*, errW_none, errW_some] <;> rfl), by repeat (first | (with_reducible first | exact HB.out | apply below_alloc | apply pw_below_drewN | apply below_drew1) | exact HB.out)⟩
        · replace c18 := Bool.eq_false_iff.mpr c18
          subst c18
          have H1 : ((fix_Div.f kj9 (wrap64 (a0)) (wrap64 (a1)) (wrap64 (a2)) a3).bind fun bt128 => (if a2 ≤ 0 then (if true = true then (if bt128.2 = true then (some false) else (some (bt128.1 == 0))) else (some false)) else (if a3 = true then (if true = true then (if bt128.2 = true then (if (wrap64 (bt128.1 * (wrap64 (a2)))) ≥ (wrap64 ((wrap64 (a0)) * (wrap64 (a1)))) then (some (decide ((wrap64 ((wrap64 (bt128.1 * (wrap64 (a2)))) - (wrap64 (a2)))) < (wrap64 ((wrap64 (a0)) * (wrap64 (a1))))))) else (some false)) else (some false)) else (some false)) else (if true = true then (if bt128.2 = true then (if (wrap64 (bt128.1 * (wrap64 (a2)))) ≤ (wrap64 ((wrap64 (a0)) * (wrap64 (a1)))) then (some (decide ((wrap64 ((wrap64 (bt128.1 * (wrap64 (a2)))) + (wrap64 (a2)))) > (wrap64 ((wrap64 (a0)) * (wrap64 (a1))))))) else (some false)) else (some false)) else (some false))))) = some r := by rw [if_neg (show ¬ (false = true) by decide)] at H; exact H
          clear H
          have H := H1
          clear H1
          replace H := Option.bind_eq_some_iff.mp H
          obtain ⟨⟨t128, t129⟩, A190, H⟩ := H
          replace H : (if a2 ≤ 0 then (if true = true then (if t129 = true then (some false) else (some (t128 == 0))) else (some false)) else (if a3 = true then (if true = true then (if t129 = true then (if (wrap64 (t128 * (wrap64 (a2)))) ≥ (wrap64 ((wrap64 (a0)) * (wrap64 (a1)))) then (some (decide ((wrap64 ((wrap64 (t128 * (wrap64 (a2)))) - (wrap64 (a2)))) < (wrap64 ((wrap64 (a0)) * (wrap64 (a1))))))) else (some false)) else (some false)) else (some false)) else (if true = true then (if t129 = true then (if (wrap64 (t128 * (wrap64 (a2)))) ≤ (wrap64 ((wrap64 (a0)) * (wrap64 (a1)))) then (some (decide ((wrap64 ((wrap64 (t128 * (wrap64 (a2)))) + (wrap64 (a2)))) > (wrap64 ((wrap64 (a0)) * (wrap64 (a1))))))) else (some false)) else (some false)) else (some false)))) = some r := H
          have A19 := Aside0.mk A190
          clear A190
          by_cases c20 : a2 ≤ 0
          · rw [if_pos c20] at H
            have c20b0 : decide (a2 ≤ 0) = true := decide_eq_true c20
            clear c20
            have H1 : (if t129 = true then (some false) else (some (t128 == 0))) = some r := by rw [if_pos rfl] at H; exact H
            clear H
            have H := H1
            clear H1
            by_cases c21 : t129 = true
            · subst c21
              have H1 : (some false) = some r := by rw [if_pos rfl] at H; exact H
              clear H
              have H := H1
              clear H1
              obtain rfl := Option.some.inj H
              go_wp2_with (first | ((with_reducible refine gate_callee (f := 9) rfl ?_); refine goesL_ (some 84) rfl rfl Try.func9 (by kernel_rfl) rfl #[.int .i64 (wrap64 (a0)), .int .i64 (wrap64 (a1)), .int .i64 (wrap64 (a2)), .bool a3] rfl (by (try simp only [List.map_toArray, List.map_cons, List.map_nil]); first | done | rfl | (simp only [List.length_drop, List.length_take]; rfl)) ?_; (with_reducible refine (fix_Div.calls kj9 (wrap64 (a0)) (wrap64 (a1)) (wrap64 (a2)) a3 t128 true _ ?side1 A19.out).mono ?_); (case side1 => exact GlobOK.below HG.out (by repeat (first | (with_reducible first | exact HB.out | apply below_alloc | apply pw_below_drewN | apply below_drew1) | exact HB.out))); rintro e w22 ⟨rfl, hb⟩; refine ⟨_, rfl, ?_⟩; have n0_ := Aside0.mk (below_step (by repeat (first | (with_reducible first | exact HB.out | apply below_alloc | apply pw_below_drewN | apply below_drew1) | exact HB.out)) hb); clear HB; have HB := n0_; clear n0_; (try clear hb); (try clear hb2); (try clear hk); (try clear hi)))
              go_ret
              exact ⟨by first | rfl | (simp [errW_none, errW_some] <;> rfl) | (simp [*, errW_none, errW_some] <;> rfl), by repeat (first | (with_reducible first | exact HB.out | apply below_alloc | apply pw_below_drewN | apply below_drew1) | exact HB.out)⟩
            · replace c21 := Bool.eq_false_iff.mpr c21
              subst c21
              have H1 : (some (t128 == 0)) = some r := by rw [if_neg (show ¬ (false = true) by decide)] at H; exact H
              clear H
              have H := H1
              clear H1
              obtain rfl := Option.some.inj H
              go_wp2_with (first | ((with_reducible refine gate_callee (f := 9) rfl ?_); refine goesL_ (some 84) rfl rfl Try.func9 (by kernel_rfl) rfl #[.int .i64 (wrap64 (a0)), .int .i64 (wrap64 (a1)), .int .i64 (wrap64 (a2)), .bool a3] rfl (by (try simp only [List.map_toArray, List.map_cons, List.map_nil]); first | done | rfl | (simp only [List.length_drop, List.length_take]; rfl)) ?_; (with_reducible refine (fix_Div.calls kj9 (wrap64 (a0)) (wrap64 (a1)) (wrap64 (a2)) a3 t128 false _ ?side1 A19.out).mono ?_); (case side1 => exact GlobOK.below HG.out (by repeat (first | (with_reducible first | exact HB.out | apply below_alloc | apply pw_below_drewN | apply below_drew1) | exact HB.out))); rintro e w23 ⟨rfl, hb⟩; refine ⟨_, rfl, ?_⟩; have n0_ := Aside0.mk (below_step (by repeat (first | (with_reducible first | exact HB.out | apply below_alloc | apply pw_below_drewN | apply below_drew1) | exact HB.out)) hb); clear HB; have HB := n0_; clear n0_; (try clear hb); (try clear hb2); (try clear hk); (try clear hi)))
              go_ret
              exact ⟨by first | rfl | (simp [errW_none, errW_some] <;> rfl) | (simp [*, errW_none, errW_some] <;> rfl), by repeat (first | (with_reducible first | exact HB.out | apply below_alloc | apply pw_below_drewN | apply below_drew1) | exact HB.out)⟩
          · rw [if_neg c20] at H
            have c20b0 : decide (a2 ≤ 0) = false := decide_eq_false c20
            clear c20
            by_cases c24 : a3 = true
            · subst c24
              have H1 : (if true = true then (if t129 = true then (if (wrap64 (t128 * (wrap64 (a2)))) ≥ (wrap64 ((wrap64 (a0)) * (wrap64 (a1)))) then (some (decide ((wrap64 ((wrap64 (t128 * (wrap64 (a2)))) - (wrap64 (a2)))) < (wrap64 ((wrap64 (a0)) * (wrap64 (a1))))))) else (some false)) else (some false)) else (some false)) = some r := by rw [if_pos rfl] at H; exact H
              clear H
              have H := H1
              clear H1
              have H1 : (if t129 = true then (if (wrap64 (t128 * (wrap64 (a2)))) ≥ (wrap64 ((wrap64 (a0)) * (wrap64 (a1)))) then (some (decide ((wrap64 ((wrap64 (t128 * (wrap64 (a2)))) - (wrap64 (a2)))) < (wrap64 ((wrap64 (a0)) * (wrap64 (a1))))))) else (some false)) else (some false)) = some r := by rw [if_pos rfl] at H; exact H
              clear H
              have H := H1
              clear H1
              by_cases c25 : t129 = true
              · subst c25
                have H1 : (if (wrap64 (t128 * (wrap64 (a2)))) ≥ (wrap64 ((wrap64 (a0)) * (wrap64 (a1)))) then (some (decide ((wrap64 ((wrap64 (t128 * (wrap64 (a2)))) - (wrap64 (a2)))) < (wrap64 ((wrap64 (a0)) * (wrap64 (a1))))))) else (some false)) = some r := by rw [if_pos rfl] at H; exact H
                clear H
                have H := H1
                clear H1
                by_cases c26 : (wrap64 (t128 * (wrap64 (a2)))) ≥ (wrap64 ((wrap64 (a0)) * (wrap64 (a1))))
                · rw [if_pos c26] at H
                  have c26b0 : decide ((wrap64 ((wrap64 (a0)) * (wrap64 (a1)))) ≤ (wrap64 (t128 * (wrap64 (a2))))) = true := decide_eq_true c26
                  clear c26
                  obtain rfl := Option.some.inj H
                  go_wp2_with (first | ((with_reducible refine gate_callee (f := 9) rfl ?_); refine goesL_ (some 84) rfl rfl Try.func9 (by kernel_rfl) rfl #[.int .i64 (wrap64 (a0)), .int .i64 (wrap64 (a1)), .int .i64 (wrap64 (a2)), .bool true] rfl (by (try simp only [List.map_toArray, List.map_cons, List.map_nil]); first | done | rfl | (simp only [List.length_drop, List.length_take]; rfl)) ?_; (with_reducible refine (fix_Div.calls kj9 (wrap64 (a0)) (wrap64 (a1)) (wrap64 (a2)) true t128 true _ ?side1 A19.out).mono ?_); (case side1 => exact GlobOK.below HG.out (by repeat (first | (with_reducible first | exact HB.out | apply below_alloc | apply pw_below_drewN | apply below_drew1) | exact HB.out))); rintro e w27 ⟨rfl, hb⟩; refine ⟨_, rfl, ?_⟩; have n0_ := Aside0.mk (below_step (by repeat (first | (with_reducible first | exact HB.out | apply below_alloc | apply pw_below_drewN | apply below_drew1) | exact HB.out)) hb); clear HB; have HB := n0_; clear n0_; (try clear hb); (try clear hb2); (try clear hk); (try clear hi)))
                  go_ret
                  exact ⟨by first | rfl | (simp [errW_none, errW_some] <;> rfl) | (simp [*, errW_none, errW_some] <;> rfl), by repeat (first | (with_reducible first | exact HB.out | apply below_alloc | apply pw_below_drewN | apply below_drew1) | exact HB.out)⟩
                · rw [if_neg c26] at H
                  have c26b0 : decide ((wrap64 ((wrap64 (a0)) * (wrap64 (a1)))) ≤ (wrap64 (t128 * (wrap64 (a2))))) = false := decide_eq_false c26
                  clear c26
                  obtain rfl := Option.some.inj H
                  go_wp2_with (first | ((with_reducible refine gate_callee (f := 9) rfl ?_); refine goesL_ (some 84) rfl rfl Try.func9 (by kernel_rfl) rfl #[.int .i64 (wrap64 (a0)), .int .i64 (wrap64 (a1)), .int .i64 (wrap64 (a2)), .bool true] rfl (by (try simp only [List.map_toArray, List.map_cons, List.map_nil]); first | done | rfl | (simp only [List.length_drop, List.length_take]; rfl)) ?_; (with_reducible refine (fix_Div.calls kj9 (wrap64 (a0)) (wrap64 (a1)) (wrap64 (a2)) true t128 true _ ?side1 A19.out).mono ?_); (case side1 => exact GlobOK.below HG.out (by repeat (first | (with_reducible first | exact HB.out | apply below_alloc | apply pw_below_drewN | apply below_drew1) | exact HB.out))); rintro e w28 ⟨rfl, hb⟩; refine ⟨_, rfl, ?_⟩; have n0_ := Aside0.mk (below_step (by repeat (first | (with_reducible first | exact HB.out | apply below_alloc | apply pw_below_drewN | apply below_drew1) | exact HB.out)) hb); clear HB; have HB := n0_; clear n0_; (try clear hb); (try clear hb2); (try clear hk); (try clear hi)))
                  go_ret
                  exact ⟨by first | rfl | (simp [errW_none, errW_some] <;> rfl) | (simp [*, errW_none, errW_some] <;> rfl), by repeat (first | (with_reducible first | exact HB.out | apply below_alloc | apply pw_below_drewN | apply below_drew1) | exact HB.out)⟩
              · replace c25 := Bool.eq_false_iff.mpr c25
                subst c25
                have H1 : (some false) = some r := by rw [if_neg (show ¬ (false = true) by decide)] at H; exact H
                clear H
                have H := H1
                clear H1
                obtain rfl := Option.some.inj H
                go_wp2_with (first | ((with_reducible refine gate_callee (f := 9) rfl ?_); refine goesL_ (some 84) rfl rfl Try.func9 (by kernel_rfl) rfl #[.int .i64 (wrap64 (a0)), .int .i64 (wrap64 (a1)), .int .i64 (wrap64 (a2)), .bool true] rfl (by (try simp only [List.map_toArray, List.map_cons, List.map_nil]); first | done | rfl | (simp only [List.length_drop, List.length_take]; rfl)) ?_; (with_reducible refine (fix_Div.calls kj9 (wrap64 (a0)) (wrap64 (a1)) (wrap64 (a2)) true t128 false _ ?side1 A19.out).mono ?_); (case side1 => exact GlobOK.below HG.out (by repeat (first | (with_reducible first | exact HB.out | apply below_alloc | apply pw_below_drewN | apply below_drew1) | exact HB.out))); rintro e w29 ⟨rfl, hb⟩; refine ⟨_, rfl, ?_⟩; have n0_ := Aside0.mk (below_step (by repeat (first | (with_reducible first | exact HB.out | apply below_alloc | apply pw_below_drewN | apply below_drew1) | exact HB.out)) hb); clear HB; have HB := n0_; clear n0_; (try clear hb); (try clear hb2); (try clear hk); (try clear hi)))
                go_ret
                exact ⟨by first | rfl | (simp [errW_none, errW_some] <;> rfl) | (simp [*, errW_none, errW_some] <;> rfl), by repeat (first | (with_reducible first | exact HB.out | apply below_alloc | apply pw_below_drewN | apply below_drew1) | exact HB.out)⟩
            · replace c24 := Bool.eq_false_iff.mpr c24
              subst c24
              have H1 : (if true = true then (if t129 = true then (if (wrap64 (t128 * (wrap64 (a2)))) ≤ (wrap64 ((wrap64 (a0)) * (wrap64 (a1)))) then (some (decide ((wrap64 ((wrap64 (t128 * (wrap64 (a2)))) + (wrap64 (a2)))) > (wrap64 ((wrap64 (a0)) * (wrap64 (a1))))))) else (some false)) else (some false)) else (some false)) = some r := by rw [if_neg (show ¬ (false = true) by decide)] at H; exact H
              clear H
              have H := H1
              clear H1
              have H1 : (if t129 = true then (if (wrap64 (t128 * (wrap64 (a2)))) ≤ (wrap64 ((wrap64 (a0)) * (wrap64 (a1)))) then (some (decide ((wrap64 ((wrap64 (t128 * (wrap64 (a2)))) + (wrap64 (a2)))) > (wrap64 ((wrap64 (a0)) * (wrap64 (a1))))))) else (some false)) else (some false)) = some r := by rw [if_pos rfl] at H; exact H
              clear H
              have H := H1
              clear H1
              by_cases c30 : t129 = true
              · subst c30
                have H1 : (if (wrap64 (t128 * (wrap64 (a2)))) ≤ (wrap64 ((wrap64 (a0)) * (wrap64 (a1)))) then (some (decide ((wrap64 ((wrap64 (t128 * (wrap64 (a2)))) + (wrap64 (a2)))) > (wrap64 ((wrap64 (a0)) * (wrap64 (a1))))))) else (some false)) = some r := by rw [if_pos rfl] at H; exact H
                clear H
                have H := H1
                clear H1
                by_cases c31 : (wrap64 (t128 * (wrap64 (a2)))) ≤ (wrap64 ((wrap64 (a0)) * (wrap64 (a1))))
                · rw [if_pos c31] at H
                  have c31b0 : decide ((wrap64 (t128 * (wrap64 (a2)))) ≤ (wrap64 ((wrap64 (a0)) * (wrap64 (a1))))) = true := decide_eq_true c31
                  clear c31
                  obtain rfl := Option.some.inj H
                  go_wp2_with (first | ((with_reducible refine gate_callee (f := 9) rfl ?_); refine goesL_ (some 84) rfl rfl Try.func9 (by kernel_rfl) rfl #[.int .i64 (wrap64 (a0)), .int .i64 (wrap64 (a1)), .int .i64 (wrap64 (a2)), .bool false] rfl (by (try simp only [List.map_toArray, List.map_cons, List.map_nil]); first | done | rfl | (simp only [List.length_drop, List.length_take]; rfl)) ?_; (with_reducible refine (fix_Div.calls kj9 (wrap64 (a0)) (wrap64 (a1)) (wrap64 (a2)) false t128 true _ ?side1 A19.out).mono ?_); (case side1 => exact GlobOK.below HG.out (by repeat (first | (with_reducible first | exact HB.out | apply below_alloc | apply pw_below_drewN | apply below_drew1) | exact HB.out))); rintro e w32 ⟨rfl, hb⟩; refine ⟨_, rfl, ?_⟩; have n0_ := Aside0.mk (below_step (by repeat (first | (with_reducible first | exact HB.out | apply below_alloc | apply pw_below_drewN | apply below_drew1) | exact HB.out)) hb); clear HB; have HB := n0_; clear n0_; (try clear hb); (try clear hb2); (try clear hk); (try clear hi)))
                  go_ret
                  exact ⟨by first | rfl | (simp [errW_none, errW_some] <;> rfl) | (simp [*, errW_none, errW_some] <;> rfl), by repeat (first | (with_reducible first | exact HB.out | apply below_alloc | apply pw_below_drewN | apply below_drew1) | exact HB.out)⟩
                · rw [if_neg c31] at H
                  have c31b0 : decide ((wrap64 (t128 * (wrap64 (a2)))) ≤ (wrap64 ((wrap64 (a0)) * (wrap64 (a1))))) = false := decide_eq_false c31
                  clear c31
                  obtain rfl := Option.some.inj H
                  go_wp2_with (first | ((with_reducible refine gate_callee (f := 9) rfl ?_); refine goesL_ (some 84) rfl rfl Try.func9 (by kernel_rfl) rfl #[.int .i64 (wrap64 (a0)), .int .i64 (wrap64 (a1)), .int .i64 (wrap64 (a2)), .bool false] rfl (by (try simp only [List.map_toArray, List.map_cons, List.map_nil]); first | done | rfl | (simp only [List.length_drop, List.length_take]; rfl)) ?_; (with_reducible refine (fix_Div.calls kj9 (wrap64 (a0)) (wrap64 (a1)) (wrap64 (a2)) false t128 true _ ?side1 A19.out).mono ?_); (case side1 => exact GlobOK.below HG.out (by repeat (first | (with_reducible first | exact HB.out | apply below_alloc | apply pw_below_drewN | apply below_drew1) | exact HB.out))); rintro e w33 ⟨rfl, hb⟩; refine ⟨_, rfl, ?_⟩; have n0_ := Aside0.mk (below_step (by repeat (first | (with_reducible first | exact HB.out | apply below_alloc | apply pw_below_drewN | apply below_drew1) | exact HB.out)) hb); clear HB; have HB := n0_; clear n0_; (try clear hb); (try clear hb2); (try clear hk); (try clear hi)))
                  go_ret
                  exact ⟨by first | rfl | (simp [errW_none, errW_some] <;> rfl) | (simp [*, errW_none, errW_some] <;> rfl), by repeat (first | (with_reducible first | exact HB.out | apply below_alloc | apply pw_below_drewN | apply below_drew1) | exact HB.out)⟩
              · replace c30 := Bool.eq_false_iff.mpr c30
                subst c30
                have H1 : (some false) = some r := by rw [if_neg (show ¬ (false = true) by decide)] at H; exact H
                clear H
                have H := H1
                clear H1
                obtain rfl := Option.some.inj H
                go_wp2_with (first | ((with_reducible refine gate_callee (f := 9) rfl ?_); refine goesL_ (some 84) rfl rfl Try.func9 (by kernel_rfl) rfl #[.int .i64 (wrap64 (a0)), .int .i64 (wrap64 (a1)), .int .i64 (wrap64 (a2)), .bool false] rfl (by (try simp only [List.map_toArray, List.map_cons, List.map_nil]); first | done | rfl | (simp only [List.length_drop, List.length_take]; rfl)) ?_; (with_reducible refine (fix_Div.calls kj9 (wrap64 (a0)) (wrap64 (a1)) (wrap64 (a2)) false t128 false _ ?side1 A19.out).mono ?_); (case side1 => exact GlobOK.below HG.out (by repeat (first | (with_reducible first | exact HB.out | apply below_alloc | apply pw_below_drewN | apply below_drew1) | exact HB.out))); rintro e w34 ⟨rfl, hb⟩; refine ⟨_, rfl, ?_⟩; have n0_ := Aside0.mk (below_step (by repeat (first | (with_reducible first | exact HB.out | apply below_alloc | apply pw_below_drewN | apply below_drew1) | exact HB.out)) hb); clear HB; have HB := n0_; clear n0_; (try clear hb); (try clear hb2); (try clear hk); (try clear hi)))
                go_ret
                exact ⟨by first | rfl | (simp [errW_none, errW_some] <;> rfl) | (simp [*, errW_none, errW_some] <;> rfl), by repeat (first | (with_reducible first | exact HB.out | apply below_alloc | apply pw_below_drewN | apply below_drew1) | exact HB.out)⟩
  · replace c6 := Bool.eq_false_iff.mpr c6
    subst c6
    have H1 : (some false) = some r := by rw [if_neg (show ¬ (false = true) by decide)] at H; exact H
    clear H
    have H := H1
    clear H1
    obtain rfl := Option.some.inj H
    go_enter Try.func5, Try.ntmps5
    go_wp2_with (first | ((with_reducible refine gate_callee (f := 8) rfl ?_); refine goesL_ (some 22) rfl rfl Try.func8 (by kernel_rfl) rfl #[] rfl (by (try simp only [List.map_toArray, List.map_cons, List.map_nil]); first | done | rfl | (simp only [List.length_drop, List.length_take]; rfl)) ?_; (with_reducible refine (pledgelaw2_first.calls k  false _ ?side1 A5.out).mono ?_); (case side1 => exact GlobOK.below HG.out (by repeat (first | (with_reducible first | exact HB.out | apply below_alloc | apply pw_below_drewN | apply below_drew1) | exact HB.out))); rintro e w35 ⟨rfl, hb⟩; refine ⟨_, rfl, ?_⟩; have n0_ := Aside0.mk (below_step (by repeat (first | (with_reducible first | exact HB.out | apply below_alloc | apply pw_below_drewN | apply below_drew1) | exact HB.out)) hb); clear HB; have HB := n0_; clear n0_; (try clear hb); (try clear hb2); (try clear hk); (try clear hi)))
    go_ret
    exact ⟨by first | rfl | (simp [errW_none, errW_some] <;> rfl) | (simp [*, errW_none, errW_some] <;> rfl), by repeat (first | (with_reducible first | exact HB.out | apply below_alloc | apply pw_below_drewN | apply below_drew1) | exact HB.out)⟩

/-- The pure statement of pledgelaw2_FixSmall: numbers and lists alone. -/
def pledgelaw2_FixSmall.Pure : Prop := ∀ (a0 : Int) (a1 : Int) (a2 : Int) (a3 : Bool), Rng .i32 a0 → Rng .i32 a1 → Rng .i32 a2 → ∃ k, pledgelaw2_FixSmall.f k a0 a1 a2 a3 = some true

end Go.Proofs.Ytjfemoebahnbnaa.EFixSmall
