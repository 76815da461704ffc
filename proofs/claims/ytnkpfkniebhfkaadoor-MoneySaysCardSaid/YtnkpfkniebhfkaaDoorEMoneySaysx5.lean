/- The functions that the law comes to, as plain functions, and for each a proof that the Go code comes to just these answers. Written by a program of this claim. Conditions: each theorem bears its own. -/
import Derived.Test.YtnkpfkniebhfkaaDoorEMoneySaysx0
import Derived.Test.YtnkpfkniebhfkaaDoorEMoneySaysx4
namespace Go.Proofs.YtnkpfkniebhfkaaDoor.EMoneySays
open Go.RowKit Go.Proofs.YtnkpfkniebhfkaaDoorW.PrintWords Go.Proofs.YtnkpfkniebhfkaaDoorW.PrintLast Go.Proofs.YtnkpfkniebhfkaaDoorW.PrintMore Go.Proofs.YtnkpfkniebhfkaaDoorW.PrintOpen
attribute [local go_sem] max2_int min2_int max_two min_two max_three min_three max_four min_four   -- for this text's walks alone
set_option linter.unusedVariables false
set_option linter.unusedSimpArgs false

/-! ### pledgeref1_Div: function 35 -/
def pledgeref1_Div.j0 : Nat → Bool → Int → Bool → Option (Int × Bool)
  | 0, _, _, _ => none
  | k + 1, x12, x13, x48 => if x48 = true then (if x13 = 18446744073709551615 then (some (0, false)) else ((pledgeref1_signed.f x12 (IntKind.u64.wrap (x13 + 1))).bind fun bt174 => (some (bt174.1, bt174.2)))) else ((pledgeref1_signed.f x12 x13).bind fun bt176 => (some (bt176.1, bt176.2)))
def pledgeref1_Div.f (k : Nat) (a0 : Int) (a1 : Int) (a2 : Int) (a3 : Bool) : Option (Int × Bool) := if a2 ≤ 0 then (some (0, false)) else ((pledgeref1_size.f a0).bind fun t167 => ((pledgeref1_size.f a1).bind fun t168 => ((pledgeref1_Wide.f t167 t168).bind fun bt169 => ((pledgeref1_over.f k bt169.1 bt169.2 (IntKind.u64.wrap (a2))).bind fun bt171 => (if bt171.2.2 = true then (if bt171.2.1 = 0 then (pledgeref1_Div.j0 k ((decide (a0 < 0)) != (decide (a1 < 0))) bt171.1 false) else (pledgeref1_Div.j0 k ((decide (a0 < 0)) != (decide (a1 < 0))) bt171.1 (a3 != ((decide (a0 < 0)) != (decide (a1 < 0)))))) else (some (0, false)))))))
theorem pledgeref1_Div.mono_l : ∀ k, (∀ y0 y1 y2, LeO (pledgeref1_Div.j0 k y0 y1 y2) (pledgeref1_Div.j0 (k + 1) y0 y1 y2))
  | 0 => fun _ _ _ r h => by simp [pledgeref1_Div.j0] at h
  | k + 1 => by
    have ih0 := pledgeref1_Div.mono_l k
    · intro y0 y1 y2
      unfold pledgeref1_Div.j0
      repeat' first
      | (with_reducible exact ih0 _ _ _)
      | (with_reducible exact pledgeref1_over.mono _ _ _ _)
      | (with_reducible exact LeO.refl _)
      | (with_reducible exact LeO.none _)
      | (with_reducible refine LeO.ite ?_ ?_)
      | (with_reducible refine LeO.bind ?_ (fun _ => ?_))
      | exact ih0 _ _ _
      | exact pledgeref1_over.mono _ _ _ _
      | exact LeO.none _
      | refine LeO.ite ?_ ?_
      | refine LeO.bind ?_ (fun _ => ?_)
theorem pledgeref1_Div.mono : ∀ a0 a1 a2 a3 k, LeO (pledgeref1_Div.f k a0 a1 a2 a3) (pledgeref1_Div.f (k + 1) a0 a1 a2 a3) := by
  intro a0 a1 a2 a3 k
  have ih0 := pledgeref1_Div.mono_l k
  unfold pledgeref1_Div.f
  repeat' first
      | (with_reducible exact ih0 _ _ _)
      | (with_reducible exact pledgeref1_over.mono _ _ _ _)
      | (with_reducible exact LeO.refl _)
      | (with_reducible exact LeO.none _)
      | (with_reducible refine LeO.ite ?_ ?_)
      | (with_reducible refine LeO.bind ?_ (fun _ => ?_))
      | exact ih0 _ _ _
      | exact pledgeref1_over.mono _ _ _ _
      | exact LeO.none _
      | refine LeO.ite ?_ ?_
      | refine LeO.bind ?_ (fun _ => ?_)
set_option maxHeartbeats 8000000 in
set_option maxRecDepth 100000 in
theorem pledgeref1_Div.calls [Inhabited (Int → Addr)] (k : Nat) (a0 : Int) (a1 : Int) (a2 : Int) (a3 : Bool) (r1 : Int) (r2 : Bool) (w : World) (h : pledgeref1_Div.f k a0 a1 a2 a3 = some (r1, r2)) :
    Calls Tryd.prog 35 #[.int .i64 a0, .int .i64 a1, .int .i64 a2, .bool a3] w fun e w' => e = .returned (.tuple #[.int .i64 r1, .bool r2]) ∧ Drawn0 w w' := by
  have H : (if a2 ≤ 0 then (some (0, false)) else ((pledgeref1_size.f a0).bind fun t167 => ((pledgeref1_size.f a1).bind fun t168 => ((pledgeref1_Wide.f t167 t168).bind fun bt169 => ((pledgeref1_over.f k bt169.1 bt169.2 (IntKind.u64.wrap (a2))).bind fun bt171 => (if bt171.2.2 = true then (if bt171.2.1 = 0 then (pledgeref1_Div.j0 k ((decide (a0 < 0)) != (decide (a1 < 0))) bt171.1 false) else (pledgeref1_Div.j0 k ((decide (a0 < 0)) != (decide (a1 < 0))) bt171.1 (a3 != ((decide (a0 < 0)) != (decide (a1 < 0)))))) else (some (0, false)))))))) = some (r1, r2) := h
  clear h
  by_cases c5 : a2 ≤ 0
  · rw [if_pos c5] at H
    have c5b0 : decide (a2 ≤ 0) = true := decide_eq_true c5
    clear c5
    simp only [Option.some.injEq, Prod.mk.injEq] at H
    obtain ⟨rfl, rfl⟩ := H
    go_enter Tryd.func35, Tryd.ntmps35
    go_wp2
    go_ret2
    exact ⟨by first | rfl | (simp; done) | (simp [*]; done) | (simp [wrap64]; done) | (simp <;> rfl), by repeat (first | exact Drawn0.refl _ | apply Drawn0.step)⟩
  · rw [if_neg c5] at H
    have c5b0 : decide (a2 ≤ 0) = false := decide_eq_false c5
    clear c5
    replace H := Option.bind_eq_some_iff.mp H
    obtain ⟨t167, A60, H⟩ := H
    replace H : ((pledgeref1_size.f a1).bind fun t168 => ((pledgeref1_Wide.f t167 t168).bind fun bt169 => ((pledgeref1_over.f k bt169.1 bt169.2 (IntKind.u64.wrap (a2))).bind fun bt171 => (if bt171.2.2 = true then (if bt171.2.1 = 0 then (pledgeref1_Div.j0 k ((decide (a0 < 0)) != (decide (a1 < 0))) bt171.1 false) else (pledgeref1_Div.j0 k ((decide (a0 < 0)) != (decide (a1 < 0))) bt171.1 (a3 != ((decide (a0 < 0)) != (decide (a1 < 0)))))) else (some (0, false)))))) = some (r1, r2) := H
    have A6 := Aside0.mk A60
    clear A60
    replace H := Option.bind_eq_some_iff.mp H
    obtain ⟨t168, A70, H⟩ := H
    replace H : ((pledgeref1_Wide.f t167 t168).bind fun bt169 => ((pledgeref1_over.f k bt169.1 bt169.2 (IntKind.u64.wrap (a2))).bind fun bt171 => (if bt171.2.2 = true then (if bt171.2.1 = 0 then (pledgeref1_Div.j0 k ((decide (a0 < 0)) != (decide (a1 < 0))) bt171.1 false) else (pledgeref1_Div.j0 k ((decide (a0 < 0)) != (decide (a1 < 0))) bt171.1 (a3 != ((decide (a0 < 0)) != (decide (a1 < 0)))))) else (some (0, false))))) = some (r1, r2) := H
    have A7 := Aside0.mk A70
    clear A70
    replace H := Option.bind_eq_some_iff.mp H
    obtain ⟨⟨t169, t170⟩, A80, H⟩ := H
    replace H : ((pledgeref1_over.f k t169 t170 (IntKind.u64.wrap (a2))).bind fun bt171 => (if bt171.2.2 = true then (if bt171.2.1 = 0 then (pledgeref1_Div.j0 k ((decide (a0 < 0)) != (decide (a1 < 0))) bt171.1 false) else (pledgeref1_Div.j0 k ((decide (a0 < 0)) != (decide (a1 < 0))) bt171.1 (a3 != ((decide (a0 < 0)) != (decide (a1 < 0)))))) else (some (0, false)))) = some (r1, r2) := H
    have A8 := Aside0.mk A80
    clear A80
    replace H := Option.bind_eq_some_iff.mp H
    obtain ⟨⟨t171, t172, t173⟩, A90, H⟩ := H
    replace H : (if t173 = true then (if t172 = 0 then (pledgeref1_Div.j0 k ((decide (a0 < 0)) != (decide (a1 < 0))) t171 false) else (pledgeref1_Div.j0 k ((decide (a0 < 0)) != (decide (a1 < 0))) t171 (a3 != ((decide (a0 < 0)) != (decide (a1 < 0)))))) else (some (0, false))) = some (r1, r2) := H
    have A9 := Aside0.mk A90
    clear A90
    by_cases c10 : t173 = true
    · subst c10
      have H1 : (if t172 = 0 then (pledgeref1_Div.j0 k ((decide (a0 < 0)) != (decide (a1 < 0))) t171 false) else (pledgeref1_Div.j0 k ((decide (a0 < 0)) != (decide (a1 < 0))) t171 (a3 != ((decide (a0 < 0)) != (decide (a1 < 0)))))) = some (r1, r2) := by rw [if_pos rfl] at H; exact H
      clear H
      have H := H1
      clear H1
      have HC11 := Aside0.mk H
      clear H
      go_enter Tryd.func35, Tryd.ntmps35
      go_upto_region 8 with (first | ((with_reducible refine gate_callee (f := 45) rfl ?_); refine goesL_ (some 20) rfl rfl Tryd.func45 (by kernel_rfl) rfl #[.int .i64 a0] rfl (by (try simp only [List.map_toArray, List.map_cons, List.map_nil]); first | done | rfl | (simp only [List.length_drop, List.length_take]; rfl)) ?_; (with_reducible refine (pledgeref1_size.calls a0 t167 _ A6.out).mono ?_); rintro e w' ⟨rfl, ⟨nd, rfl⟩⟩; refine ⟨_, rfl, ?_⟩) | ((with_reducible refine gate_callee (f := 45) rfl ?_); refine goesL_ (some 22) rfl rfl Tryd.func45 (by kernel_rfl) rfl #[.int .i64 a1] rfl (by (try simp only [List.map_toArray, List.map_cons, List.map_nil]); first | done | rfl | (simp only [List.length_drop, List.length_take]; rfl)) ?_; (with_reducible refine (pledgeref1_size.calls a1 t168 _ A7.out).mono ?_); rintro e w' ⟨rfl, ⟨nd, rfl⟩⟩; refine ⟨_, rfl, ?_⟩) | ((with_reducible refine gate_callee (f := 44) rfl ?_); refine goesL_ (some 23) rfl rfl Tryd.func44 (by kernel_rfl) rfl #[.int .u64 t167, .int .u64 t168] rfl (by (try simp only [List.map_toArray, List.map_cons, List.map_nil]); first | done | rfl | (simp only [List.length_drop, List.length_take]; rfl)) ?_; (with_reducible refine (pledgeref1_Wide.calls t167 t168 t169 t170 _ A8.out).mono ?_); rintro e w' ⟨rfl, ⟨nd, rfl⟩⟩; refine ⟨_, rfl, ?_⟩) | ((with_reducible refine gate_callee (f := 46) rfl ?_); refine goesL_ (some 36) rfl rfl Tryd.func46 (by kernel_rfl) rfl #[.int .u64 t169, .int .u64 t170, .int .u64 (IntKind.u64.wrap (a2))] rfl (by (try simp only [List.map_toArray, List.map_cons, List.map_nil]); first | done | rfl | (simp only [List.length_drop, List.length_take]; rfl)) ?_; (with_reducible refine (pledgeref1_over.calls k t169 t170 (IntKind.u64.wrap (a2)) t171 t172 true _ A9.out).mono ?_); rintro e w' ⟨rfl, ⟨nd, rfl⟩⟩; refine ⟨_, rfl, ?_⟩))
      (try simp only [Act.put, List.setIfInBounds_toArray, List.set_cons_zero, List.set_cons_succ])
      go_cut [48] (fun v48 wc => ∃ (kq : Nat) (x48_10 : Bool), v48 = .bool x48_10 ∧ Aside0 (pledgeref1_Div.j0 kq ((decide (a0 < 0)) != (decide (a1 < 0))) t171 x48_10 = some (r1, r2)) ∧ Aside0 (kq ≤ k) ∧ Drawn0 w wc)
      case first =>
        have H := HC11.out
        clear HC11
        by_cases c12 : t172 = 0
        · rw [if_pos c12] at H
          have c12b0 : (t172 == 0) = true := beq_iff_eq.mpr c12
          have c12b1 : (t172 != 0) = false := bne_eq_false_iff_eq.mpr c12
          clear c12
          (first | rw [c12b0] | (simp only [i64_w, i32_w]; rw [c12b0]) | skip)
          have H' := Aside0.mk H
          clear H
          go_wp2
          go_meet
          case rel => exact ⟨_, (false), (by first | rfl | (simp; done) | (simp [*]; done)), H', ⟨by first | omega | exact Nat.le_refl _⟩, by repeat (first | exact Drawn0.refl _ | apply Drawn0.step)⟩
        · rw [if_neg c12] at H
          have c12b0 : (t172 == 0) = false := beq_eq_false_iff_ne.mpr c12
          have c12b1 : (t172 != 0) = true := bne_iff_ne.mpr c12
          (first | rw [c12b0] | (simp only [i64_w, i32_w]; rw [c12b0]) | skip)
          have H' := Aside0.mk H
          clear H
          go_wp2
          go_meet
          case rel => exact ⟨_, ((a3 != ((decide (a0 < 0)) != (decide (a1 < 0))))), (by first | rfl | (simp; done) | (simp [*]; done)), H', ⟨by first | omega | exact Nat.le_refl _⟩, by repeat (first | exact Drawn0.refl _ | apply Drawn0.step)⟩
      case rest =>
        clear HC11
        try clear c1
        try clear p2
        try clear c3
        try clear c4
        try clear c5
        try clear c5b0
        try clear p6
        try clear c10
        try clear c12
        try clear c12b0
        try clear c12b1
        obtain ⟨kq, x48_10, rfl, HA, HJ10, ⟨mc10, rfl⟩⟩ := hcut
        cases kq with
        | zero => exact absurd HA.out (by simp [pledgeref1_Div.j0])
        | succ kj10 =>
          have H := HA.out
          clear HA
          simp only [pledgeref1_Div.j0] at H
          by_cases c13 : x48_10 = true
          · subst c13
            have H1 : (if t171 = 18446744073709551615 then (some (0, false)) else ((pledgeref1_signed.f ((decide (a0 < 0)) != (decide (a1 < 0))) (IntKind.u64.wrap (t171 + 1))).bind fun bt174 => (some (bt174.1, bt174.2)))) = some (r1, r2) := by rw [if_pos rfl] at H; exact H
            clear H
            have H := H1
            clear H1
            by_cases c14 : t171 = 18446744073709551615
            · rw [if_pos c14] at H
              have c14b0 : (t171 == 18446744073709551615) = true := beq_iff_eq.mpr c14
              have c14b1 : (t171 != 18446744073709551615) = false := bne_eq_false_iff_eq.mpr c14
              clear c14
              simp only [Option.some.injEq, Prod.mk.injEq] at H
              obtain ⟨rfl, rfl⟩ := H
              go_wp2
              go_ret2
              exact ⟨by first | rfl | (simp; done) | (simp [*]; done) | (simp [wrap64]; done) | (simp <;> rfl), by repeat (first | exact Drawn0.refl _ | apply Drawn0.step)⟩
            · rw [if_neg c14] at H
              have c14b0 : (t171 == 18446744073709551615) = false := beq_eq_false_iff_ne.mpr c14
              have c14b1 : (t171 != 18446744073709551615) = true := bne_iff_ne.mpr c14
              replace H := Option.bind_eq_some_iff.mp H
              obtain ⟨⟨t174, t175⟩, A150, H⟩ := H
              replace H : (some (t174, t175)) = some (r1, r2) := H
              have A15 := Aside0.mk A150
              clear A150
              simp only [Option.some.injEq, Prod.mk.injEq] at H
              obtain ⟨rfl, rfl⟩ := H
              go_wp2_with (first | ((with_reducible refine gate_callee (f := 47) rfl ?_); refine goesL_ (some 55) rfl rfl Tryd.func47 (by kernel_rfl) rfl #[.bool ((decide (a0 < 0)) != (decide (a1 < 0))), .int .u64 (IntKind.u64.wrap (t171 + 1))] rfl (by (try simp only [List.map_toArray, List.map_cons, List.map_nil]); first | done | rfl | (simp only [List.length_drop, List.length_take]; rfl)) ?_; (with_reducible refine (pledgeref1_signed.calls ((decide (a0 < 0)) != (decide (a1 < 0))) (IntKind.u64.wrap (t171 + 1)) t174 t175 _ A15.out).mono ?_); rintro e w' ⟨rfl, ⟨nd, rfl⟩⟩; refine ⟨_, rfl, ?_⟩))
              go_ret2
              exact ⟨by first | rfl | (simp; done) | (simp [*]; done) | (simp [wrap64]; done) | (simp <;> rfl), by repeat (first | exact Drawn0.refl _ | apply Drawn0.step)⟩
          · replace c13 := Bool.eq_false_iff.mpr c13
            subst c13
            have H1 : ((pledgeref1_signed.f ((decide (a0 < 0)) != (decide (a1 < 0))) t171).bind fun bt176 => (some (bt176.1, bt176.2))) = some (r1, r2) := by rw [if_neg (show ¬ (false = true) by decide)] at H; exact H
            clear H
            have H := H1
            clear H1
            replace H := Option.bind_eq_some_iff.mp H
            obtain ⟨⟨t176, t177⟩, A160, H⟩ := H
            replace H : (some (t176, t177)) = some (r1, r2) := H
            have A16 := Aside0.mk A160
            clear A160
            simp only [Option.some.injEq, Prod.mk.injEq] at H
            obtain ⟨rfl, rfl⟩ := H
            go_wp2_with (first | ((with_reducible refine gate_callee (f := 47) rfl ?_); refine goesL_ (some 55) rfl rfl Tryd.func47 (by kernel_rfl) rfl #[.bool ((decide (a0 < 0)) != (decide (a1 < 0))), .int .u64 t171] rfl (by (try simp only [List.map_toArray, List.map_cons, List.map_nil]); first | done | rfl | (simp only [List.length_drop, List.length_take]; rfl)) ?_; (with_reducible refine (pledgeref1_signed.calls ((decide (a0 < 0)) != (decide (a1 < 0))) t171 t176 t177 _ A16.out).mono ?_); rintro e w' ⟨rfl, ⟨nd, rfl⟩⟩; refine ⟨_, rfl, ?_⟩))
            go_ret2
            exact ⟨by first | rfl | (simp; done) | (simp [*]; done) | (simp [wrap64]; done) | (simp <;> rfl), by repeat (first | exact Drawn0.refl _ | apply Drawn0.step)⟩
    · replace c10 := Bool.eq_false_iff.mpr c10
      subst c10
      have H1 : (some (0, false)) = some (r1, r2) := by rw [if_neg (show ¬ (false = true) by decide)] at H; exact H
      clear H
      have H := H1
      clear H1
      simp only [Option.some.injEq, Prod.mk.injEq] at H
      obtain ⟨rfl, rfl⟩ := H
      go_enter Tryd.func35, Tryd.ntmps35
      go_wp2_with (first | ((with_reducible refine gate_callee (f := 45) rfl ?_); refine goesL_ (some 20) rfl rfl Tryd.func45 (by kernel_rfl) rfl #[.int .i64 a0] rfl (by (try simp only [List.map_toArray, List.map_cons, List.map_nil]); first | done | rfl | (simp only [List.length_drop, List.length_take]; rfl)) ?_; (with_reducible refine (pledgeref1_size.calls a0 t167 _ A6.out).mono ?_); rintro e w' ⟨rfl, ⟨nd, rfl⟩⟩; refine ⟨_, rfl, ?_⟩) | ((with_reducible refine gate_callee (f := 45) rfl ?_); refine goesL_ (some 22) rfl rfl Tryd.func45 (by kernel_rfl) rfl #[.int .i64 a1] rfl (by (try simp only [List.map_toArray, List.map_cons, List.map_nil]); first | done | rfl | (simp only [List.length_drop, List.length_take]; rfl)) ?_; (with_reducible refine (pledgeref1_size.calls a1 t168 _ A7.out).mono ?_); rintro e w' ⟨rfl, ⟨nd, rfl⟩⟩; refine ⟨_, rfl, ?_⟩) | ((with_reducible refine gate_callee (f := 44) rfl ?_); refine goesL_ (some 23) rfl rfl Tryd.func44 (by kernel_rfl) rfl #[.int .u64 t167, .int .u64 t168] rfl (by (try simp only [List.map_toArray, List.map_cons, List.map_nil]); first | done | rfl | (simp only [List.length_drop, List.length_take]; rfl)) ?_; (with_reducible refine (pledgeref1_Wide.calls t167 t168 t169 t170 _ A8.out).mono ?_); rintro e w' ⟨rfl, ⟨nd, rfl⟩⟩; refine ⟨_, rfl, ?_⟩) | ((with_reducible refine gate_callee (f := 46) rfl ?_); refine goesL_ (some 36) rfl rfl Tryd.func46 (by kernel_rfl) rfl #[.int .u64 t169, .int .u64 t170, .int .u64 (IntKind.u64.wrap (a2))] rfl (by (try simp only [List.map_toArray, List.map_cons, List.map_nil]); first | done | rfl | (simp only [List.length_drop, List.length_take]; rfl)) ?_; (with_reducible refine (pledgeref1_over.calls k t169 t170 (IntKind.u64.wrap (a2)) t171 t172 false _ A9.out).mono ?_); rintro e w' ⟨rfl, ⟨nd, rfl⟩⟩; refine ⟨_, rfl, ?_⟩))
      go_ret2
      exact ⟨by first | rfl | (simp; done) | (simp [*]; done) | (simp [wrap64]; done) | (simp <;> rfl), by repeat (first | exact Drawn0.refl _ | apply Drawn0.step)⟩

/-! ### pledgeref1_capped: function 29 -/
def pledgeref1_capped.f (k : Nat) (a0 : Int) (a1 : Int) (a2 : Int) (a3 : Bool) : Option (Int × Int) := (pledgeref1_Div.f k a0 a1 a2 a3).bind fun bt178 => (if bt178.2 = true then (if bt178.1 > 1000000000000000 then (some (0, 104)) else (some (bt178.1, 0))) else (some (0, 104)))
theorem pledgeref1_capped.mono : ∀ a0 a1 a2 a3 k, LeO (pledgeref1_capped.f k a0 a1 a2 a3) (pledgeref1_capped.f (k + 1) a0 a1 a2 a3) := by
  intro a0 a1 a2 a3 k
  unfold pledgeref1_capped.f
  repeat' first
      | (with_reducible exact pledgeref1_Div.mono _ _ _ _ _)
      | (with_reducible exact LeO.refl _)
      | (with_reducible exact LeO.none _)
      | (with_reducible refine LeO.ite ?_ ?_)
      | (with_reducible refine LeO.bind ?_ (fun _ => ?_))
      | exact pledgeref1_Div.mono _ _ _ _ _
      | exact LeO.none _
      | refine LeO.ite ?_ ?_
      | refine LeO.bind ?_ (fun _ => ?_)
set_option maxHeartbeats 8000000 in
set_option maxRecDepth 100000 in
theorem pledgeref1_capped.calls [Inhabited (Int → Addr)] (k : Nat) (a0 : Int) (a1 : Int) (a2 : Int) (a3 : Bool) (r1 : Int) (r2 : Int) (w : World) (h : pledgeref1_capped.f k a0 a1 a2 a3 = some (r1, r2)) :
    Calls Tryd.prog 29 #[.int .i64 a0, .int .i64 a1, .int .i64 a2, .bool a3] w fun e w' => e = .returned (.tuple #[.int .i64 r1, .int .i64 r2]) ∧ Drawn0 w w' := by
  have H : ((pledgeref1_Div.f k a0 a1 a2 a3).bind fun bt178 => (if bt178.2 = true then (if bt178.1 > 1000000000000000 then (some (0, 104)) else (some (bt178.1, 0))) else (some (0, 104)))) = some (r1, r2) := h
  clear h
  replace H := Option.bind_eq_some_iff.mp H
  obtain ⟨⟨t178, t179⟩, A50, H⟩ := H
  replace H : (if t179 = true then (if t178 > 1000000000000000 then (some (0, 104)) else (some (t178, 0))) else (some (0, 104))) = some (r1, r2) := H
  have A5 := Aside0.mk A50
  clear A50
  by_cases c6 : t179 = true
  · subst c6
    have H1 : (if t178 > 1000000000000000 then (some (0, 104)) else (some (t178, 0))) = some (r1, r2) := by rw [if_pos rfl] at H; exact H
    clear H
    have H := H1
    clear H1
    by_cases c7 : t178 > 1000000000000000
    · rw [if_pos c7] at H
      have c7b0 : decide (1000000000000000 < t178) = true := decide_eq_true c7
      clear c7
      simp only [Option.some.injEq, Prod.mk.injEq] at H
      obtain ⟨rfl, rfl⟩ := H
      go_enter Tryd.func29, Tryd.ntmps29
      go_wp2_with (first | ((with_reducible refine gate_callee (f := 35) rfl ?_); refine goesL_ (some 17) rfl rfl Tryd.func35 (by kernel_rfl) rfl #[.int .i64 a0, .int .i64 a1, .int .i64 a2, .bool a3] rfl (by (try simp only [List.map_toArray, List.map_cons, List.map_nil]); first | done | rfl | (simp only [List.length_drop, List.length_take]; rfl)) ?_; (with_reducible refine (pledgeref1_Div.calls k a0 a1 a2 a3 t178 true _ A5.out).mono ?_); rintro e w' ⟨rfl, ⟨nd, rfl⟩⟩; refine ⟨_, rfl, ?_⟩))
      go_ret2
      exact ⟨by first | rfl | (simp; done) | (simp [*]; done) | (simp [wrap64]; done) | (simp <;> rfl), by repeat (first | exact Drawn0.refl _ | apply Drawn0.step)⟩
    · rw [if_neg c7] at H
      have c7b0 : decide (1000000000000000 < t178) = false := decide_eq_false c7
      clear c7
      simp only [Option.some.injEq, Prod.mk.injEq] at H
      obtain ⟨rfl, rfl⟩ := H
      go_enter Tryd.func29, Tryd.ntmps29
      go_wp2_with (first | ((with_reducible refine gate_callee (f := 35) rfl ?_); refine goesL_ (some 17) rfl rfl Tryd.func35 (by kernel_rfl) rfl #[.int .i64 a0, .int .i64 a1, .int .i64 a2, .bool a3] rfl (by (try simp only [List.map_toArray, List.map_cons, List.map_nil]); first | done | rfl | (simp only [List.length_drop, List.length_take]; rfl)) ?_; (with_reducible refine (pledgeref1_Div.calls k a0 a1 a2 a3 t178 true _ A5.out).mono ?_); rintro e w' ⟨rfl, ⟨nd, rfl⟩⟩; refine ⟨_, rfl, ?_⟩))
      go_ret2
      exact ⟨by first | rfl | (simp; done) | (simp [*]; done) | (simp [wrap64]; done) | (simp <;> rfl), by repeat (first | exact Drawn0.refl _ | apply Drawn0.step)⟩
  · replace c6 := Bool.eq_false_iff.mpr c6
    subst c6
    have H1 : (some (0, 104)) = some (r1, r2) := by rw [if_neg (show ¬ (false = true) by decide)] at H; exact H
    clear H
    have H := H1
    clear H1
    simp only [Option.some.injEq, Prod.mk.injEq] at H
    obtain ⟨rfl, rfl⟩ := H
    go_enter Tryd.func29, Tryd.ntmps29
    go_wp2_with (first | ((with_reducible refine gate_callee (f := 35) rfl ?_); refine goesL_ (some 17) rfl rfl Tryd.func35 (by kernel_rfl) rfl #[.int .i64 a0, .int .i64 a1, .int .i64 a2, .bool a3] rfl (by (try simp only [List.map_toArray, List.map_cons, List.map_nil]); first | done | rfl | (simp only [List.length_drop, List.length_take]; rfl)) ?_; (with_reducible refine (pledgeref1_Div.calls k a0 a1 a2 a3 t178 false _ A5.out).mono ?_); rintro e w' ⟨rfl, ⟨nd, rfl⟩⟩; refine ⟨_, rfl, ?_⟩))
    go_ret2
    exact ⟨by first | rfl | (simp; done) | (simp [*]; done) | (simp [wrap64]; done) | (simp <;> rfl), by repeat (first | exact Drawn0.refl _ | apply Drawn0.step)⟩

/-! ### pledgeref1_Worth: function 17 -/
def pledgeref1_Worth.f (k : Nat) (a0 : Int) (a1 : Int) : Option (Int × Int) := (pledgeref1_within.f a0 1000000000000).bind fun t180 => (if t180 = true then ((pledgeref1_within.f a1 1000000000).bind fun t181 => (if t181 = true then ((pledgeref1_capped.f k a0 a1 10000 false).bind fun bt182 => (some (bt182.1, bt182.2))) else (some (0, 103)))) else (some (0, 103)))
theorem pledgeref1_Worth.mono : ∀ a0 a1 k, LeO (pledgeref1_Worth.f k a0 a1) (pledgeref1_Worth.f (k + 1) a0 a1) := by
  intro a0 a1 k
  unfold pledgeref1_Worth.f
  repeat' first
      | (with_reducible exact pledgeref1_capped.mono _ _ _ _ _)
      | (with_reducible exact LeO.refl _)
      | (with_reducible exact LeO.none _)
      | (with_reducible refine LeO.ite ?_ ?_)
      | (with_reducible refine LeO.bind ?_ (fun _ => ?_))
      | exact pledgeref1_capped.mono _ _ _ _ _
      | exact LeO.none _
      | refine LeO.ite ?_ ?_
      | refine LeO.bind ?_ (fun _ => ?_)
set_option maxHeartbeats 8000000 in
set_option maxRecDepth 100000 in
theorem pledgeref1_Worth.calls [Inhabited (Int → Addr)] (k : Nat) (a0 : Int) (a1 : Int) (r1 : Int) (r2 : Int) (w : World) (h : pledgeref1_Worth.f k a0 a1 = some (r1, r2)) :
    Calls Tryd.prog 17 #[.int .i64 a0, .int .i64 a1] w fun e w' => e = .returned (.tuple #[.int .i64 r1, .int .i64 r2]) ∧ Drawn0 w w' := by
  have H : ((pledgeref1_within.f a0 1000000000000).bind fun t180 => (if t180 = true then ((pledgeref1_within.f a1 1000000000).bind fun t181 => (if t181 = true then ((pledgeref1_capped.f k a0 a1 10000 false).bind fun bt182 => (some (bt182.1, bt182.2))) else (some (0, 103)))) else (some (0, 103)))) = some (r1, r2) := h
  clear h
  replace H := Option.bind_eq_some_iff.mp H
  obtain ⟨t180, A30, H⟩ := H
  replace H : (if t180 = true then ((pledgeref1_within.f a1 1000000000).bind fun t181 => (if t181 = true then ((pledgeref1_capped.f k a0 a1 10000 false).bind fun bt182 => (some (bt182.1, bt182.2))) else (some (0, 103)))) else (some (0, 103))) = some (r1, r2) := H
  have A3 := Aside0.mk A30
  clear A30
  by_cases c4 : t180 = true
  · subst c4
    have H1 : ((pledgeref1_within.f a1 1000000000).bind fun t181 => (if t181 = true then ((pledgeref1_capped.f k a0 a1 10000 false).bind fun bt182 => (some (bt182.1, bt182.2))) else (some (0, 103)))) = some (r1, r2) := by rw [if_pos rfl] at H; exact H
    clear H
    have H := H1
    clear H1
    replace H := Option.bind_eq_some_iff.mp H
    obtain ⟨t181, A50, H⟩ := H
    replace H : (if t181 = true then ((pledgeref1_capped.f k a0 a1 10000 false).bind fun bt182 => (some (bt182.1, bt182.2))) else (some (0, 103))) = some (r1, r2) := H
    have A5 := Aside0.mk A50
    clear A50
    by_cases c6 : t181 = true
    · subst c6
      have H1 : ((pledgeref1_capped.f k a0 a1 10000 false).bind fun bt182 => (some (bt182.1, bt182.2))) = some (r1, r2) := by rw [if_pos rfl] at H; exact H
      clear H
      have H := H1
      clear H1
      replace H := Option.bind_eq_some_iff.mp H
      obtain ⟨⟨t182, t183⟩, A70, H⟩ := H
      replace H : (some (t182, t183)) = some (r1, r2) := H
      have A7 := Aside0.mk A70
      clear A70
      simp only [Option.some.injEq, Prod.mk.injEq] at H
      obtain ⟨rfl, rfl⟩ := H
      go_enter Tryd.func17, Tryd.ntmps17
      go_wp2_with (first | ((with_reducible refine gate_callee (f := 28) rfl ?_); refine goesL_ (some 7) rfl rfl Tryd.func28 (by kernel_rfl) rfl #[.int .i64 a0, .int .i64 1000000000000] rfl (by (try simp only [List.map_toArray, List.map_cons, List.map_nil]); first | done | rfl | (simp only [List.length_drop, List.length_take]; rfl)) ?_; (with_reducible refine (pledgeref1_within.calls a0 1000000000000 true _ A3.out).mono ?_); rintro e w' ⟨rfl, ⟨nd, rfl⟩⟩; refine ⟨_, rfl, ?_⟩) | (go_at_call 28; (with_reducible refine (pledgeref1_within.calls a1 1000000000 true _ A5.out).mono ?_); rintro e w' ⟨rfl, ⟨nd, rfl⟩⟩) | ((with_reducible refine gate_callee (f := 29) rfl ?_); refine goesL_ (some 16) rfl rfl Tryd.func29 (by kernel_rfl) rfl #[.int .i64 a0, .int .i64 a1, .int .i64 10000, .bool false] rfl (by (try simp only [List.map_toArray, List.map_cons, List.map_nil]); first | done | rfl | (simp only [List.length_drop, List.length_take]; rfl)) ?_; (with_reducible refine (pledgeref1_capped.calls k a0 a1 10000 false t182 t183 _ A7.out).mono ?_); rintro e w' ⟨rfl, ⟨nd, rfl⟩⟩; refine ⟨_, rfl, ?_⟩))
      go_ret2
      exact ⟨by first | rfl | (simp; done) | (simp [*]; done) | (simp [wrap64]; done) | (simp <;> rfl), by repeat (first | exact Drawn0.refl _ | apply Drawn0.step)⟩
    · replace c6 := Bool.eq_false_iff.mpr c6
      subst c6
      have H1 : (some (0, 103)) = some (r1, r2) := by rw [if_neg (show ¬ (false = true) by decide)] at H; exact H
      clear H
      have H := H1
      clear H1
      simp only [Option.some.injEq, Prod.mk.injEq] at H
      obtain ⟨rfl, rfl⟩ := H
      go_enter Tryd.func17, Tryd.ntmps17
      go_wp2_with (first | ((with_reducible refine gate_callee (f := 28) rfl ?_); refine goesL_ (some 7) rfl rfl Tryd.func28 (by kernel_rfl) rfl #[.int .i64 a0, .int .i64 1000000000000] rfl (by (try simp only [List.map_toArray, List.map_cons, List.map_nil]); first | done | rfl | (simp only [List.length_drop, List.length_take]; rfl)) ?_; (with_reducible refine (pledgeref1_within.calls a0 1000000000000 true _ A3.out).mono ?_); rintro e w' ⟨rfl, ⟨nd, rfl⟩⟩; refine ⟨_, rfl, ?_⟩) | (go_at_call 28; (with_reducible refine (pledgeref1_within.calls a1 1000000000 false _ A5.out).mono ?_); rintro e w' ⟨rfl, ⟨nd, rfl⟩⟩))
      go_ret2
      exact ⟨by first | rfl | (simp; done) | (simp [*]; done) | (simp [wrap64]; done) | (simp <;> rfl), by repeat (first | exact Drawn0.refl _ | apply Drawn0.step)⟩
  · replace c4 := Bool.eq_false_iff.mpr c4
    subst c4
    have H1 : (some (0, 103)) = some (r1, r2) := by rw [if_neg (show ¬ (false = true) by decide)] at H; exact H
    clear H
    have H := H1
    clear H1
    simp only [Option.some.injEq, Prod.mk.injEq] at H
    obtain ⟨rfl, rfl⟩ := H
    go_enter Tryd.func17, Tryd.ntmps17
    go_wp2_with (first | ((with_reducible refine gate_callee (f := 28) rfl ?_); refine goesL_ (some 7) rfl rfl Tryd.func28 (by kernel_rfl) rfl #[.int .i64 a0, .int .i64 1000000000000] rfl (by (try simp only [List.map_toArray, List.map_cons, List.map_nil]); first | done | rfl | (simp only [List.length_drop, List.length_take]; rfl)) ?_; (with_reducible refine (pledgeref1_within.calls a0 1000000000000 false _ A3.out).mono ?_); rintro e w' ⟨rfl, ⟨nd, rfl⟩⟩; refine ⟨_, rfl, ?_⟩))
    go_ret2
    exact ⟨by first | rfl | (simp; done) | (simp [*]; done) | (simp [wrap64]; done) | (simp <;> rfl), by repeat (first | exact Drawn0.refl _ | apply Drawn0.step)⟩

/-! ### pledgeref1_Base: function 18 -/
def pledgeref1_Base.f (k : Nat) (a0 : Int) (a1 : Int) : Option (Int × Int) := (pledgeref1_within.f a0 1000000000000000).bind fun t184 => (if t184 = true then ((pledgeref1_within.f a1 1000000000).bind fun t185 => (if t185 = true then ((pledgeref1_capped.f k a0 a1 1000000 false).bind fun bt186 => (some (bt186.1, bt186.2))) else (some (0, 103)))) else (some (0, 103)))
theorem pledgeref1_Base.mono : ∀ a0 a1 k, LeO (pledgeref1_Base.f k a0 a1) (pledgeref1_Base.f (k + 1) a0 a1) := by
  intro a0 a1 k
  unfold pledgeref1_Base.f
  repeat' first
      | (with_reducible exact pledgeref1_capped.mono _ _ _ _ _)
      | (with_reducible exact LeO.refl _)
      | (with_reducible exact LeO.none _)
      | (with_reducible refine LeO.ite ?_ ?_)
      | (with_reducible refine LeO.bind ?_ (fun _ => ?_))
      | exact pledgeref1_capped.mono _ _ _ _ _
      | exact LeO.none _
      | refine LeO.ite ?_ ?_
      | refine LeO.bind ?_ (fun _ => ?_)
set_option maxHeartbeats 8000000 in
set_option maxRecDepth 100000 in
theorem pledgeref1_Base.calls [Inhabited (Int → Addr)] (k : Nat) (a0 : Int) (a1 : Int) (r1 : Int) (r2 : Int) (w : World) (h : pledgeref1_Base.f k a0 a1 = some (r1, r2)) :
    Calls Tryd.prog 18 #[.int .i64 a0, .int .i64 a1] w fun e w' => e = .returned (.tuple #[.int .i64 r1, .int .i64 r2]) ∧ Drawn0 w w' := by
  have H : ((pledgeref1_within.f a0 1000000000000000).bind fun t184 => (if t184 = true then ((pledgeref1_within.f a1 1000000000).bind fun t185 => (if t185 = true then ((pledgeref1_capped.f k a0 a1 1000000 false).bind fun bt186 => (some (bt186.1, bt186.2))) else (some (0, 103)))) else (some (0, 103)))) = some (r1, r2) := h
  clear h
  replace H := Option.bind_eq_some_iff.mp H
  obtain ⟨t184, A30, H⟩ := H
  replace H : (if t184 = true then ((pledgeref1_within.f a1 1000000000).bind fun t185 => (if t185 = true then ((pledgeref1_capped.f k a0 a1 1000000 false).bind fun bt186 => (some (bt186.1, bt186.2))) else (some (0, 103)))) else (some (0, 103))) = some (r1, r2) := H
  have A3 := Aside0.mk A30
  clear A30
  by_cases c4 : t184 = true
  · subst c4
    have H1 : ((pledgeref1_within.f a1 1000000000).bind fun t185 => (if t185 = true then ((pledgeref1_capped.f k a0 a1 1000000 false).bind fun bt186 => (some (bt186.1, bt186.2))) else (some (0, 103)))) = some (r1, r2) := by rw [if_pos rfl] at H; exact H
    clear H
    have H := H1
    clear H1
    replace H := Option.bind_eq_some_iff.mp H
    obtain ⟨t185, A50, H⟩ := H
    replace H : (if t185 = true then ((pledgeref1_capped.f k a0 a1 1000000 false).bind fun bt186 => (some (bt186.1, bt186.2))) else (some (0, 103))) = some (r1, r2) := H
    have A5 := Aside0.mk A50
    clear A50
    by_cases c6 : t185 = true
    · subst c6
      have H1 : ((pledgeref1_capped.f k a0 a1 1000000 false).bind fun bt186 => (some (bt186.1, bt186.2))) = some (r1, r2) := by rw [if_pos rfl] at H; exact H
      clear H
      have H := H1
      clear H1
      replace H := Option.bind_eq_some_iff.mp H
      obtain ⟨⟨t186, t187⟩, A70, H⟩ := H
      replace H : (some (t186, t187)) = some (r1, r2) := H
      have A7 := Aside0.mk A70
      clear A70
      simp only [Option.some.injEq, Prod.mk.injEq] at H
      obtain ⟨rfl, rfl⟩ := H
      go_enter Tryd.func18, Tryd.ntmps18
      go_wp2_with (first | ((with_reducible refine gate_callee (f := 28) rfl ?_); refine goesL_ (some 7) rfl rfl Tryd.func28 (by kernel_rfl) rfl #[.int .i64 a0, .int .i64 1000000000000000] rfl (by (try simp only [List.map_toArray, List.map_cons, List.map_nil]); first | done | rfl | (simp only [List.length_drop, List.length_take]; rfl)) ?_; (with_reducible refine (pledgeref1_within.calls a0 1000000000000000 true _ A3.out).mono ?_); rintro e w' ⟨rfl, ⟨nd, rfl⟩⟩; refine ⟨_, rfl, ?_⟩) | (go_at_call 28; (with_reducible refine (pledgeref1_within.calls a1 1000000000 true _ A5.out).mono ?_); rintro e w' ⟨rfl, ⟨nd, rfl⟩⟩) | ((with_reducible refine gate_callee (f := 29) rfl ?_); refine goesL_ (some 16) rfl rfl Tryd.func29 (by kernel_rfl) rfl #[.int .i64 a0, .int .i64 a1, .int .i64 1000000, .bool false] rfl (by (try simp only [List.map_toArray, List.map_cons, List.map_nil]); first | done | rfl | (simp only [List.length_drop, List.length_take]; rfl)) ?_; (with_reducible refine (pledgeref1_capped.calls k a0 a1 1000000 false t186 t187 _ A7.out).mono ?_); rintro e w' ⟨rfl, ⟨nd, rfl⟩⟩; refine ⟨_, rfl, ?_⟩))
      go_ret2
      exact ⟨by first | rfl | (simp; done) | (simp [*]; done) | (simp [wrap64]; done) | (simp <;> rfl), by repeat (first | exact Drawn0.refl _ | apply Drawn0.step)⟩
    · replace c6 := Bool.eq_false_iff.mpr c6
      subst c6
      have H1 : (some (0, 103)) = some (r1, r2) := by rw [if_neg (show ¬ (false = true) by decide)] at H; exact H
      clear H
      have H := H1
      clear H1
      simp only [Option.some.injEq, Prod.mk.injEq] at H
      obtain ⟨rfl, rfl⟩ := H
      go_enter Tryd.func18, Tryd.ntmps18
      go_wp2_with (first | ((with_reducible refine gate_callee (f := 28) rfl ?_); refine goesL_ (some 7) rfl rfl Tryd.func28 (by kernel_rfl) rfl #[.int .i64 a0, .int .i64 1000000000000000] rfl (by (try simp only [List.map_toArray, List.map_cons, List.map_nil]); first | done | rfl | (simp only [List.length_drop, List.length_take]; rfl)) ?_; (with_reducible refine (pledgeref1_within.calls a0 1000000000000000 true _ A3.out).mono ?_); rintro e w' ⟨rfl, ⟨nd, rfl⟩⟩; refine ⟨_, rfl, ?_⟩) | (go_at_call 28; (with_reducible refine (pledgeref1_within.calls a1 1000000000 false _ A5.out).mono ?_); rintro e w' ⟨rfl, ⟨nd, rfl⟩⟩))
      go_ret2
      exact ⟨by first | rfl | (simp; done) | (simp [*]; done) | (simp [wrap64]; done) | (simp <;> rfl), by repeat (first | exact Drawn0.refl _ | apply Drawn0.step)⟩
  · replace c4 := Bool.eq_false_iff.mpr c4
    subst c4
    have H1 : (some (0, 103)) = some (r1, r2) := by rw [if_neg (show ¬ (false = true) by decide)] at H; exact H
    clear H
    have H := H1
    clear H1
    simp only [Option.some.injEq, Prod.mk.injEq] at H
    obtain ⟨rfl, rfl⟩ := H
    go_enter Tryd.func18, Tryd.ntmps18
    go_wp2_with (first | ((with_reducible refine gate_callee (f := 28) rfl ?_); refine goesL_ (some 7) rfl rfl Tryd.func28 (by kernel_rfl) rfl #[.int .i64 a0, .int .i64 1000000000000000] rfl (by (try simp only [List.map_toArray, List.map_cons, List.map_nil]); first | done | rfl | (simp only [List.length_drop, List.length_take]; rfl)) ?_; (with_reducible refine (pledgeref1_within.calls a0 1000000000000000 false _ A3.out).mono ?_); rintro e w' ⟨rfl, ⟨nd, rfl⟩⟩; refine ⟨_, rfl, ?_⟩))
    go_ret2
    exact ⟨by first | rfl | (simp; done) | (simp [*]; done) | (simp [wrap64]; done) | (simp <;> rfl), by repeat (first | exact Drawn0.refl _ | apply Drawn0.step)⟩

/-! ### pledgeref1_Part: function 20 -/
def pledgeref1_Part.f (k : Nat) (a0 : Int) (a1 : Int) (a2 : Bool) : Option (Int × Int) := (pledgeref1_within.f a0 1000000000000000).bind fun t188 => (if t188 = true then ((pledgeref1_within.f a1 10000).bind fun t189 => (if t189 = true then ((pledgeref1_capped.f k a0 a1 10000 a2).bind fun bt190 => (some (bt190.1, bt190.2))) else (some (0, 103)))) else (some (0, 103)))
theorem pledgeref1_Part.mono : ∀ a0 a1 a2 k, LeO (pledgeref1_Part.f k a0 a1 a2) (pledgeref1_Part.f (k + 1) a0 a1 a2) := by
  intro a0 a1 a2 k
  unfold pledgeref1_Part.f
  repeat' first
      | (with_reducible exact pledgeref1_capped.mono _ _ _ _ _)
      | (with_reducible exact LeO.refl _)
      | (with_reducible exact LeO.none _)
      | (with_reducible refine LeO.ite ?_ ?_)
      | (with_reducible refine LeO.bind ?_ (fun _ => ?_))
      | exact pledgeref1_capped.mono _ _ _ _ _
      | exact LeO.none _
      | refine LeO.ite ?_ ?_
      | refine LeO.bind ?_ (fun _ => ?_)
set_option maxHeartbeats 8000000 in
set_option maxRecDepth 100000 in
theorem pledgeref1_Part.calls [Inhabited (Int → Addr)] (k : Nat) (a0 : Int) (a1 : Int) (a2 : Bool) (r1 : Int) (r2 : Int) (w : World) (h : pledgeref1_Part.f k a0 a1 a2 = some (r1, r2)) :
    Calls Tryd.prog 20 #[.int .i64 a0, .int .i64 a1, .bool a2] w fun e w' => e = .returned (.tuple #[.int .i64 r1, .int .i64 r2]) ∧ Drawn0 w w' := by
  have H : ((pledgeref1_within.f a0 1000000000000000).bind fun t188 => (if t188 = true then ((pledgeref1_within.f a1 10000).bind fun t189 => (if t189 = true then ((pledgeref1_capped.f k a0 a1 10000 a2).bind fun bt190 => (some (bt190.1, bt190.2))) else (some (0, 103)))) else (some (0, 103)))) = some (r1, r2) := h
  clear h
  replace H := Option.bind_eq_some_iff.mp H
  obtain ⟨t188, A40, H⟩ := H
  replace H : (if t188 = true then ((pledgeref1_within.f a1 10000).bind fun t189 => (if t189 = true then ((pledgeref1_capped.f k a0 a1 10000 a2).bind fun bt190 => (some (bt190.1, bt190.2))) else (some (0, 103)))) else (some (0, 103))) = some (r1, r2) := H
  have A4 := Aside0.mk A40
  clear A40
  by_cases c5 : t188 = true
  · subst c5
    have H1 : ((pledgeref1_within.f a1 10000).bind fun t189 => (if t189 = true then ((pledgeref1_capped.f k a0 a1 10000 a2).bind fun bt190 => (some (bt190.1, bt190.2))) else (some (0, 103)))) = some (r1, r2) := by rw [if_pos rfl] at H; exact H
    clear H
    have H := H1
    clear H1
    replace H := Option.bind_eq_some_iff.mp H
    obtain ⟨t189, A60, H⟩ := H
    replace H : (if t189 = true then ((pledgeref1_capped.f k a0 a1 10000 a2).bind fun bt190 => (some (bt190.1, bt190.2))) else (some (0, 103))) = some (r1, r2) := H
    have A6 := Aside0.mk A60
    clear A60
    by_cases c7 : t189 = true
    · subst c7
      have H1 : ((pledgeref1_capped.f k a0 a1 10000 a2).bind fun bt190 => (some (bt190.1, bt190.2))) = some (r1, r2) := by rw [if_pos rfl] at H; exact H
      clear H
      have H := H1
      clear H1
      replace H := Option.bind_eq_some_iff.mp H
      obtain ⟨⟨t190, t191⟩, A80, H⟩ := H
      replace H : (some (t190, t191)) = some (r1, r2) := H
      have A8 := Aside0.mk A80
      clear A80
      simp only [Option.some.injEq, Prod.mk.injEq] at H
      obtain ⟨rfl, rfl⟩ := H
      go_enter Tryd.func20, Tryd.ntmps20
      go_wp2_with (first | ((with_reducible refine gate_callee (f := 28) rfl ?_); refine goesL_ (some 9) rfl rfl Tryd.func28 (by kernel_rfl) rfl #[.int .i64 a0, .int .i64 1000000000000000] rfl (by (try simp only [List.map_toArray, List.map_cons, List.map_nil]); first | done | rfl | (simp only [List.length_drop, List.length_take]; rfl)) ?_; (with_reducible refine (pledgeref1_within.calls a0 1000000000000000 true _ A4.out).mono ?_); rintro e w' ⟨rfl, ⟨nd, rfl⟩⟩; refine ⟨_, rfl, ?_⟩) | (go_at_call 28; (with_reducible refine (pledgeref1_within.calls a1 10000 true _ A6.out).mono ?_); rintro e w' ⟨rfl, ⟨nd, rfl⟩⟩) | ((with_reducible refine gate_callee (f := 29) rfl ?_); refine goesL_ (some 19) rfl rfl Tryd.func29 (by kernel_rfl) rfl #[.int .i64 a0, .int .i64 a1, .int .i64 10000, .bool a2] rfl (by (try simp only [List.map_toArray, List.map_cons, List.map_nil]); first | done | rfl | (simp only [List.length_drop, List.length_take]; rfl)) ?_; (with_reducible refine (pledgeref1_capped.calls k a0 a1 10000 a2 t190 t191 _ A8.out).mono ?_); rintro e w' ⟨rfl, ⟨nd, rfl⟩⟩; refine ⟨_, rfl, ?_⟩))
      go_ret2
      exact ⟨by first | rfl | (simp; done) | (simp [*]; done) | (simp [wrap64]; done) | (simp <;> rfl), by repeat (first | exact Drawn0.refl _ | apply Drawn0.step)⟩
    · replace c7 := Bool.eq_false_iff.mpr c7
      subst c7
      have H1 : (some (0, 103)) = some (r1, r2) := by rw [if_neg (show ¬ (false = true) by decide)] at H; exact H
      clear H
      have H := H1
      clear H1
      simp only [Option.some.injEq, Prod.mk.injEq] at H
      obtain ⟨rfl, rfl⟩ := H
      go_enter Tryd.func20, Tryd.ntmps20
      go_wp2_with (first | ((with_reducible refine gate_callee (f := 28) rfl ?_); refine goesL_ (some 9) rfl rfl Tryd.func28 (by kernel_rfl) rfl #[.int .i64 a0, .int .i64 1000000000000000] rfl (by (try simp only [List.map_toArray, List.map_cons, List.map_nil]); first | done | rfl | (simp only [List.length_drop, List.length_take]; rfl)) ?_; (with_reducible refine (pledgeref1_within.calls a0 1000000000000000 true _ A4.out).mono ?_); rintro e w' ⟨rfl, ⟨nd, rfl⟩⟩; refine ⟨_, rfl, ?_⟩) | (go_at_call 28; (with_reducible refine (pledgeref1_within.calls a1 10000 false _ A6.out).mono ?_); rintro e w' ⟨rfl, ⟨nd, rfl⟩⟩))
      go_ret2
      exact ⟨by first | rfl | (simp; done) | (simp [*]; done) | (simp [wrap64]; done) | (simp <;> rfl), by repeat (first | exact Drawn0.refl _ | apply Drawn0.step)⟩
  · replace c5 := Bool.eq_false_iff.mpr c5
    subst c5
    have H1 : (some (0, 103)) = some (r1, r2) := by rw [if_neg (show ¬ (false = true) by decide)] at H; exact H
    clear H
    have H := H1
    clear H1
    simp only [Option.some.injEq, Prod.mk.injEq] at H
    obtain ⟨rfl, rfl⟩ := H
    go_enter Tryd.func20, Tryd.ntmps20
    go_wp2_with (first | ((with_reducible refine gate_callee (f := 28) rfl ?_); refine goesL_ (some 9) rfl rfl Tryd.func28 (by kernel_rfl) rfl #[.int .i64 a0, .int .i64 1000000000000000] rfl (by (try simp only [List.map_toArray, List.map_cons, List.map_nil]); first | done | rfl | (simp only [List.length_drop, List.length_take]; rfl)) ?_; (with_reducible refine (pledgeref1_within.calls a0 1000000000000000 false _ A4.out).mono ?_); rintro e w' ⟨rfl, ⟨nd, rfl⟩⟩; refine ⟨_, rfl, ?_⟩))
    go_ret2
    exact ⟨by first | rfl | (simp; done) | (simp [*]; done) | (simp [wrap64]; done) | (simp <;> rfl), by repeat (first | exact Drawn0.refl _ | apply Drawn0.step)⟩

/-! ### pledgeref1_Less: function 19 -/
def pledgeref1_Less.f (k : Nat) (a0 : Int) (a1 : Int) : Option (Int × Int) := (pledgeref1_within.f a1 10000).bind fun t192 => (if t192 = true then ((pledgeref1_Part.f k a0 (wrap64 (10000 - a1)) false).bind fun bt193 => (some (bt193.1, bt193.2))) else (some (0, 103)))
theorem pledgeref1_Less.mono : ∀ a0 a1 k, LeO (pledgeref1_Less.f k a0 a1) (pledgeref1_Less.f (k + 1) a0 a1) := by
  intro a0 a1 k
  unfold pledgeref1_Less.f
  repeat' first
      | (with_reducible exact pledgeref1_Part.mono _ _ _ _)
      | (with_reducible exact LeO.refl _)
      | (with_reducible exact LeO.none _)
      | (with_reducible refine LeO.ite ?_ ?_)
      | (with_reducible refine LeO.bind ?_ (fun _ => ?_))
      | exact pledgeref1_Part.mono _ _ _ _
      | exact LeO.none _
      | refine LeO.ite ?_ ?_
      | refine LeO.bind ?_ (fun _ => ?_)
set_option maxHeartbeats 8000000 in
set_option maxRecDepth 100000 in
theorem pledgeref1_Less.calls [Inhabited (Int → Addr)] (k : Nat) (a0 : Int) (a1 : Int) (r1 : Int) (r2 : Int) (w : World) (h : pledgeref1_Less.f k a0 a1 = some (r1, r2)) :
    Calls Tryd.prog 19 #[.int .i64 a0, .int .i64 a1] w fun e w' => e = .returned (.tuple #[.int .i64 r1, .int .i64 r2]) ∧ Drawn0 w w' := by
  have H : ((pledgeref1_within.f a1 10000).bind fun t192 => (if t192 = true then ((pledgeref1_Part.f k a0 (wrap64 (10000 - a1)) false).bind fun bt193 => (some (bt193.1, bt193.2))) else (some (0, 103)))) = some (r1, r2) := h
  clear h
  replace H := Option.bind_eq_some_iff.mp H
  obtain ⟨t192, A30, H⟩ := H
  replace H : (if t192 = true then ((pledgeref1_Part.f k a0 (wrap64 (10000 - a1)) false).bind fun bt193 => (some (bt193.1, bt193.2))) else (some (0, 103))) = some (r1, r2) := H
  have A3 := Aside0.mk A30
  clear A30
  by_cases c4 : t192 = true
  · subst c4
    have H1 : ((pledgeref1_Part.f k a0 (wrap64 (10000 - a1)) false).bind fun bt193 => (some (bt193.1, bt193.2))) = some (r1, r2) := by rw [if_pos rfl] at H; exact H
    clear H
    have H := H1
    clear H1
    replace H := Option.bind_eq_some_iff.mp H
    obtain ⟨⟨t193, t194⟩, A50, H⟩ := H
    replace H : (some (t193, t194)) = some (r1, r2) := H
    have A5 := Aside0.mk A50
    clear A50
    simp only [Option.some.injEq, Prod.mk.injEq] at H
    obtain ⟨rfl, rfl⟩ := H
    go_enter Tryd.func19, Tryd.ntmps19
    go_wp2_with (first | ((with_reducible refine gate_callee (f := 28) rfl ?_); refine goesL_ (some 7) rfl rfl Tryd.func28 (by kernel_rfl) rfl #[.int .i64 a1, .int .i64 10000] rfl (by (try simp only [List.map_toArray, List.map_cons, List.map_nil]); first | done | rfl | (simp only [List.length_drop, List.length_take]; rfl)) ?_; (with_reducible refine (pledgeref1_within.calls a1 10000 true _ A3.out).mono ?_); rintro e w' ⟨rfl, ⟨nd, rfl⟩⟩; refine ⟨_, rfl, ?_⟩) | ((with_reducible refine gate_callee (f := 20) rfl ?_); refine goesL_ (some 12) rfl rfl Tryd.func20 (by kernel_rfl) rfl #[.int .i64 a0, .int .i64 (wrap64 (10000 - a1)), .bool false] rfl (by (try simp only [List.map_toArray, List.map_cons, List.map_nil]); first | done | rfl | (simp only [List.length_drop, List.length_take]; rfl)) ?_; (with_reducible refine (pledgeref1_Part.calls k a0 (wrap64 (10000 - a1)) false t193 t194 _ A5.out).mono ?_); rintro e w' ⟨rfl, ⟨nd, rfl⟩⟩; refine ⟨_, rfl, ?_⟩))
    go_ret2
    exact ⟨by first | rfl | (simp; done) | (simp [*]; done) | (simp [wrap64]; done) | (simp <;> rfl), by repeat (first | exact Drawn0.refl _ | apply Drawn0.step)⟩
  · replace c4 := Bool.eq_false_iff.mpr c4
    subst c4
    have H1 : (some (0, 103)) = some (r1, r2) := by rw [if_neg (show ¬ (false = true) by decide)] at H; exact H
    clear H
    have H := H1
    clear H1
    simp only [Option.some.injEq, Prod.mk.injEq] at H
    obtain ⟨rfl, rfl⟩ := H
    go_enter Tryd.func19, Tryd.ntmps19
    go_wp2_with (first | ((with_reducible refine gate_callee (f := 28) rfl ?_); refine goesL_ (some 7) rfl rfl Tryd.func28 (by kernel_rfl) rfl #[.int .i64 a1, .int .i64 10000] rfl (by (try simp only [List.map_toArray, List.map_cons, List.map_nil]); first | done | rfl | (simp only [List.length_drop, List.length_take]; rfl)) ?_; (with_reducible refine (pledgeref1_within.calls a1 10000 false _ A3.out).mono ?_); rintro e w' ⟨rfl, ⟨nd, rfl⟩⟩; refine ⟨_, rfl, ?_⟩))
    go_ret2
    exact ⟨by first | rfl | (simp; done) | (simp [*]; done) | (simp [wrap64]; done) | (simp <;> rfl), by repeat (first | exact Drawn0.refl _ | apply Drawn0.step)⟩

/-! ### pledgeref1_Interest: function 21 -/
def pledgeref1_Interest.f (k : Nat) (a0 : Int) (a1 : Int) (a2 : Int) : Option (Int × Int) := (pledgeref1_within.f a0 1000000000000000).bind fun t195 => (if t195 = true then ((pledgeref1_within.f a1 10000).bind fun t196 => (if t196 = true then ((pledgeref1_within.f a2 40000).bind fun t197 => (if t197 = true then ((pledgeref1_capped.f k a0 (wrap64 (a1 * a2)) 3600000 false).bind fun bt198 => (some (bt198.1, bt198.2))) else (some (0, 103)))) else (some (0, 103)))) else (some (0, 103)))
theorem pledgeref1_Interest.mono : ∀ a0 a1 a2 k, LeO (pledgeref1_Interest.f k a0 a1 a2) (pledgeref1_Interest.f (k + 1) a0 a1 a2) := by
  intro a0 a1 a2 k
  unfold pledgeref1_Interest.f
  repeat' first
      | (with_reducible exact pledgeref1_capped.mono _ _ _ _ _)
      | (with_reducible exact LeO.refl _)
      | (with_reducible exact LeO.none _)
      | (with_reducible refine LeO.ite ?_ ?_)
      | (with_reducible refine LeO.bind ?_ (fun _ => ?_))
      | exact pledgeref1_capped.mono _ _ _ _ _
      | exact LeO.none _
      | refine LeO.ite ?_ ?_
      | refine LeO.bind ?_ (fun _ => ?_)
set_option maxHeartbeats 8000000 in
set_option maxRecDepth 100000 in
theorem pledgeref1_Interest.calls [Inhabited (Int → Addr)] (k : Nat) (a0 : Int) (a1 : Int) (a2 : Int) (r1 : Int) (r2 : Int) (w : World) (h : pledgeref1_Interest.f k a0 a1 a2 = some (r1, r2)) :
    Calls Tryd.prog 21 #[.int .i64 a0, .int .i64 a1, .int .i64 a2] w fun e w' => e = .returned (.tuple #[.int .i64 r1, .int .i64 r2]) ∧ Drawn0 w w' := by
  have H : ((pledgeref1_within.f a0 1000000000000000).bind fun t195 => (if t195 = true then ((pledgeref1_within.f a1 10000).bind fun t196 => (if t196 = true then ((pledgeref1_within.f a2 40000).bind fun t197 => (if t197 = true then ((pledgeref1_capped.f k a0 (wrap64 (a1 * a2)) 3600000 false).bind fun bt198 => (some (bt198.1, bt198.2))) else (some (0, 103)))) else (some (0, 103)))) else (some (0, 103)))) = some (r1, r2) := h
  clear h
  replace H := Option.bind_eq_some_iff.mp H
  obtain ⟨t195, A40, H⟩ := H
  replace H : (if t195 = true then ((pledgeref1_within.f a1 10000).bind fun t196 => (if t196 = true then ((pledgeref1_within.f a2 40000).bind fun t197 => (if t197 = true then ((pledgeref1_capped.f k a0 (wrap64 (a1 * a2)) 3600000 false).bind fun bt198 => (some (bt198.1, bt198.2))) else (some (0, 103)))) else (some (0, 103)))) else (some (0, 103))) = some (r1, r2) := H
  have A4 := Aside0.mk A40
  clear A40
  by_cases c5 : t195 = true
  · subst c5
    have H1 : ((pledgeref1_within.f a1 10000).bind fun t196 => (if t196 = true then ((pledgeref1_within.f a2 40000).bind fun t197 => (if t197 = true then ((pledgeref1_capped.f k a0 (wrap64 (a1 * a2)) 3600000 false).bind fun bt198 => (some (bt198.1, bt198.2))) else (some (0, 103)))) else (some (0, 103)))) = some (r1, r2) := by rw [if_pos rfl] at H; exact H
    clear H
    have H := H1
    clear H1
    replace H := Option.bind_eq_some_iff.mp H
    obtain ⟨t196, A60, H⟩ := H
    replace H : (if t196 = true then ((pledgeref1_within.f a2 40000).bind fun t197 => (if t197 = true then ((pledgeref1_capped.f k a0 (wrap64 (a1 * a2)) 3600000 false).bind fun bt198 => (some (bt198.1, bt198.2))) else (some (0, 103)))) else (some (0, 103))) = some (r1, r2) := H
    have A6 := Aside0.mk A60
    clear A60
    by_cases c7 : t196 = true
    · subst c7
      have H1 : ((pledgeref1_within.f a2 40000).bind fun t197 => (if t197 = true then ((pledgeref1_capped.f k a0 (wrap64 (a1 * a2)) 3600000 false).bind fun bt198 => (some (bt198.1, bt198.2))) else (some (0, 103)))) = some (r1, r2) := by rw [if_pos rfl] at H; exact H
      clear H
      have H := H1
      clear H1
      replace H := Option.bind_eq_some_iff.mp H
      obtain ⟨t197, A80, H⟩ := H
      replace H : (if t197 = true then ((pledgeref1_capped.f k a0 (wrap64 (a1 * a2)) 3600000 false).bind fun bt198 => (some (bt198.1, bt198.2))) else (some (0, 103))) = some (r1, r2) := H
      have A8 := Aside0.mk A80
      clear A80
      by_cases c9 : t197 = true
      · subst c9
        have H1 : ((pledgeref1_capped.f k a0 (wrap64 (a1 * a2)) 3600000 false).bind fun bt198 => (some (bt198.1, bt198.2))) = some (r1, r2) := by rw [if_pos rfl] at H; exact H
        clear H
        have H := H1
        clear H1
        replace H := Option.bind_eq_some_iff.mp H
        obtain ⟨⟨t198, t199⟩, A100, H⟩ := H
        replace H : (some (t198, t199)) = some (r1, r2) := H
        have A10 := Aside0.mk A100
        clear A100
        simp only [Option.some.injEq, Prod.mk.injEq] at H
        obtain ⟨rfl, rfl⟩ := H
        go_enter Tryd.func21, Tryd.ntmps21
        go_wp2_with (first | ((with_reducible refine gate_callee (f := 28) rfl ?_); refine goesL_ (some 9) rfl rfl Tryd.func28 (by kernel_rfl) rfl #[.int .i64 a0, .int .i64 1000000000000000] rfl (by (try simp only [List.map_toArray, List.map_cons, List.map_nil]); first | done | rfl | (simp only [List.length_drop, List.length_take]; rfl)) ?_; (with_reducible refine (pledgeref1_within.calls a0 1000000000000000 true _ A4.out).mono ?_); rintro e w' ⟨rfl, ⟨nd, rfl⟩⟩; refine ⟨_, rfl, ?_⟩) | (go_at_call 28; (with_reducible refine (pledgeref1_within.calls a1 10000 true _ A6.out).mono ?_); rintro e w' ⟨rfl, ⟨nd, rfl⟩⟩) | (go_at_call 28; (with_reducible refine (pledgeref1_within.calls a2 40000 true _ A8.out).mono ?_); rintro e w' ⟨rfl, ⟨nd, rfl⟩⟩) | ((with_reducible refine gate_callee (f := 29) rfl ?_); refine goesL_ (some 25) rfl rfl Tryd.func29 (by kernel_rfl) rfl #[.int .i64 a0, .int .i64 (wrap64 (a1 * a2)), .int .i64 3600000, .bool false] rfl (by (try simp only [List.map_toArray, List.map_cons, List.map_nil]); first | done | rfl | (simp only [List.length_drop, List.length_take]; rfl)) ?_; (with_reducible refine (pledgeref1_capped.calls k a0 (wrap64 (a1 * a2)) 3600000 false t198 t199 _ A10.out).mono ?_); rintro e w' ⟨rfl, ⟨nd, rfl⟩⟩; refine ⟨_, rfl, ?_⟩))
        go_ret2
        exact ⟨by first | rfl | (simp; done) | (simp [*]; done) | (simp [wrap64]; done) | (simp <;> rfl), by repeat (first | exact Drawn0.refl _ | apply Drawn0.step)⟩
      · replace c9 := Bool.eq_false_iff.mpr c9
        subst c9
        have H1 : (some (0, 103)) = some (r1, r2) := by rw [if_neg (show ¬ (false = true) by decide)] at H; exact H
        clear H
        have H := H1
        clear H1
        simp only [Option.some.injEq, Prod.mk.injEq] at H
        obtain ⟨rfl, rfl⟩ := H
        go_enter Tryd.func21, Tryd.ntmps21
        go_wp2_with (first | ((with_reducible refine gate_callee (f := 28) rfl ?_); refine goesL_ (some 9) rfl rfl Tryd.func28 (by kernel_rfl) rfl #[.int .i64 a0, .int .i64 1000000000000000] rfl (by (try simp only [List.map_toArray, List.map_cons, List.map_nil]); first | done | rfl | (simp only [List.length_drop, List.length_take]; rfl)) ?_; (with_reducible refine (pledgeref1_within.calls a0 1000000000000000 true _ A4.out).mono ?_); rintro e w' ⟨rfl, ⟨nd, rfl⟩⟩; refine ⟨_, rfl, ?_⟩) | (go_at_call 28; (with_reducible refine (pledgeref1_within.calls a1 10000 true _ A6.out).mono ?_); rintro e w' ⟨rfl, ⟨nd, rfl⟩⟩) | (go_at_call 28; (with_reducible refine (pledgeref1_within.calls a2 40000 false _ A8.out).mono ?_); rintro e w' ⟨rfl, ⟨nd, rfl⟩⟩))
        go_ret2
        exact ⟨by first | rfl | (simp; done) | (simp [*]; done) | (simp [wrap64]; done) | (simp <;> rfl), by repeat (first | exact Drawn0.refl _ | apply Drawn0.step)⟩
    · replace c7 := Bool.eq_false_iff.mpr c7
      subst c7
      have H1 : (some (0, 103)) = some (r1, r2) := by rw [if_neg (show ¬ (false = true) by decide)] at H; exact H
      clear H
      have H := H1
      clear H1
      simp only [Option.some.injEq, Prod.mk.injEq] at H
      obtain ⟨rfl, rfl⟩ := H
      go_enter Tryd.func21, Tryd.ntmps21
      go_wp2_with (first | ((with_reducible refine gate_callee (f := 28) rfl ?_); refine goesL_ (some 9) rfl rfl Tryd.func28 (by kernel_rfl) rfl #[.int .i64 a0, .int .i64 1000000000000000] rfl (by (try simp only [List.map_toArray, List.map_cons, List.map_nil]); first | done | rfl | (simp only [List.length_drop, List.length_take]; rfl)) ?_; (with_reducible refine (pledgeref1_within.calls a0 1000000000000000 true _ A4.out).mono ?_); rintro e w' ⟨rfl, ⟨nd, rfl⟩⟩; refine ⟨_, rfl, ?_⟩) | (go_at_call 28; (with_reducible refine (pledgeref1_within.calls a1 10000 false _ A6.out).mono ?_); rintro e w' ⟨rfl, ⟨nd, rfl⟩⟩))
      go_ret2
      exact ⟨by first | rfl | (simp; done) | (simp [*]; done) | (simp [wrap64]; done) | (simp <;> rfl), by repeat (first | exact Drawn0.refl _ | apply Drawn0.step)⟩
  · replace c5 := Bool.eq_false_iff.mpr c5
    subst c5
    have H1 : (some (0, 103)) = some (r1, r2) := by rw [if_neg (show ¬ (false = true) by decide)] at H; exact H
    clear H
    have H := H1
    clear H1
    simp only [Option.some.injEq, Prod.mk.injEq] at H
    obtain ⟨rfl, rfl⟩ := H
    go_enter Tryd.func21, Tryd.ntmps21
    go_wp2_with (first | ((with_reducible refine gate_callee (f := 28) rfl ?_); refine goesL_ (some 9) rfl rfl Tryd.func28 (by kernel_rfl) rfl #[.int .i64 a0, .int .i64 1000000000000000] rfl (by (try simp only [List.map_toArray, List.map_cons, List.map_nil]); first | done | rfl | (simp only [List.length_drop, List.length_take]; rfl)) ?_; (with_reducible refine (pledgeref1_within.calls a0 1000000000000000 false _ A4.out).mono ?_); rintro e w' ⟨rfl, ⟨nd, rfl⟩⟩; refine ⟨_, rfl, ?_⟩))
    go_ret2
    exact ⟨by first | rfl | (simp; done) | (simp [*]; done) | (simp [wrap64]; done) | (simp <;> rfl), by repeat (first | exact Drawn0.refl _ | apply Drawn0.step)⟩

/-! ### bits_Add64: function 48 -/
theorem bits_Add64_run (x y c : Int) (hx : 0 ≤ x) (hy : 0 ≤ y) (h0 : 0 ≤ c) (h1 : c ≤ 1) (w : World) :
    (callFunc 48 #[.int .u64 x, .int .u64 y, .int .u64 c]).run Tryd.prog w = .ok (.value (.tuple #[.int .u64 ((x + y + c) % 18446744073709551616), .int .u64 ((x + y + c) / 18446744073709551616)])) w := by
  rw [run_callFunc_extern Tryd.func48 (by kernel_rfl) (by kernel_rfl) (by kernel_rfl) (e := add64Entry) (by kernel_rfl), run_add64 x y c hx hy h0 h1]
  rfl

/-! ### fix_wide_plus: function 36 -/
def fix_wide_plus.f (a0_0 : Int) (a0_1 : Int) (a1 : Int) : Option (Int × Int) := if 0 ≤ a0_1 then (if 0 ≤ (IntKind.u64.wrap (a1)) then (some (wrap64 ((wrap64 (a0_0 + (a1 / 9223372036854775808))) + (wrap64 ((a0_1 + (IntKind.u64.wrap (a1))) / 18446744073709551616))), (a0_1 + (IntKind.u64.wrap (a1))) % 18446744073709551616)) else (none)) else (none)
set_option maxHeartbeats 8000000 in
set_option maxRecDepth 100000 in
theorem fix_wide_plus.calls [Inhabited (Int → Addr)] (a0_0 : Int) (a0_1 : Int) (a1 : Int) (r1 : Int) (r2 : Int) (w : World) (h : fix_wide_plus.f a0_0 a0_1 a1 = some (r1, r2)) :
    Calls Tryd.prog 36 #[.agg #[.int .i64 a0_0, .int .u64 a0_1], .int .i64 a1] w fun e w' => e = .returned (.agg #[.int .i64 r1, .int .u64 r2]) ∧ Below w.heap.size w w' := by
  have hu57 := Tryd.underlying57
  have HB := Aside0.mk (Below.refl w.heap.size w)
  have H : (if 0 ≤ a0_1 then (if 0 ≤ (IntKind.u64.wrap (a1)) then (some (wrap64 ((wrap64 (a0_0 + (a1 / 9223372036854775808))) + (wrap64 ((a0_1 + (IntKind.u64.wrap (a1))) / 18446744073709551616))), (a0_1 + (IntKind.u64.wrap (a1))) % 18446744073709551616)) else (none)) else (none)) = some (r1, r2) := h
  clear h
  by_cases c3 : 0 ≤ a0_1
  · rw [if_pos c3] at H
    have c3b0 := eq_true c3
    have c3b1 : decide (0 ≤ a0_1) = true := decide_eq_true c3
    clear c3
    obtain ⟨ji4, hji4⟩ : ∃ j_ : Int, (IntKind.u64.wrap (a1)) = j_ := ⟨_, rfl⟩
    replace H : (if 0 ≤ (ji4) then (some (wrap64 ((wrap64 (a0_0 + (a1 / 9223372036854775808))) + (wrap64 ((a0_1 + (ji4)) / 18446744073709551616))), (a0_1 + (ji4)) % 18446744073709551616)) else (none)) = some (r1, r2) := by first | (rw [hji4] at H; exact H) | (simp only [hji4] at H ⊢; exact H)
    by_cases c5 : 0 ≤ (ji4)
    · rw [if_pos c5] at H
      have c5b0 := eq_true c5
      have c5b1 : decide (0 ≤ (ji4)) = true := decide_eq_true c5
      clear c5
      simp only [Option.some.injEq, Prod.mk.injEq] at H
      obtain ⟨rfl, rfl⟩ := H
      go_enter Tryd.func36, Tryd.ntmps36
      go_wp2_with (first | ((with_reducible refine gate_dst (N := 2) rfl ?_); refine box_event ?hg (N := 2) ?hd (cs := #[.int .i64 a0_0, .int .u64 a0_1]) (t := 57) ?hr ?_; (case hd => rfl); (case hg => rfl); (case hr => first | (go_simp; done) | (go_simp; rfl)); intro gb200 hg w6 hbox hb; have n0_ := Aside0.mk (below_step (by repeat (first | (with_reducible first | exact HB.out | apply below_alloc | apply pw_below_drewN | apply below_drew1) | exact HB.out)) hb); have n1_ := Aside0.mk (hbox); have n2_ := Aside0.mk ((by rw [hg]; exact (below_size (by repeat (first | (with_reducible first | exact HB.out | apply below_alloc | apply pw_below_drewN | apply below_drew1) | exact HB.out))) : w.heap.size ≤ gb200)); have n3_ := Aside0.mk ((by rw [hg]; exact (below_size (by repeat (first | (with_reducible first | exact HB.out | apply below_alloc | apply pw_below_drewN | apply below_drew1) | exact HB.out))) : w.heap.size ≤ gb200)); clear HB; have HB := n0_; have BK200 := n1_; have GW200 := n2_; have GE200 := n3_; clear n0_ n1_ n2_ n3_; clear hb hbox hg) | ((with_reducible refine gate_dst (N := 4) rfl ?_); refine box_event ?hg (N := 4) ?hd (cs := #[.int .i64 0, .int .u64 0]) (t := 57) ?hr ?_; (case hd => rfl); (case hg => rfl); (case hr => first | (go_simp; done) | (go_simp; rfl)); intro gb201 hg w7 hbox hb; have n0_ := Aside0.mk (blk_below (g := gb200) (o := .cells #[.int .i64 a0_0, .int .u64 a0_1] 57 (0, 0)) (by (with_reducible repeat (first | refine blk_drewN ?_ _ | refine blk_drew ?_ | refine blk_alloc ?_ _)); exact BK200.out) hb); have n1_ := Aside0.mk (below_step (by repeat (first | (with_reducible first | exact HB.out | apply below_alloc | apply pw_below_drewN | apply below_drew1 | refine below_set ?_ GE200.out) | exact HB.out)) hb); have n2_ := Aside0.mk (hbox); have n3_ := Aside0.mk ((by rw [hg]; exact (below_size (by repeat (first | (with_reducible first | exact HB.out | apply below_alloc | apply pw_below_drewN | apply below_drew1 | refine below_set ?_ GE200.out) | exact HB.out))) : w.heap.size ≤ gb201)); have n4_ := Aside0.mk ((by rw [hg]; exact (below_size (by repeat (first | (with_reducible first | exact HB.out | apply below_alloc | apply pw_below_drewN | apply below_drew1 | refine below_set ?_ GE200.out) | exact HB.out))) : w.heap.size ≤ gb201)); have n5_ := Aside0.mk ((by rw [hg]; exact Nat.ne_of_lt (blk_lt (g := gb200) (o := .cells #[.int .i64 a0_0, .int .u64 a0_1] 57 (0, 0)) (by (with_reducible repeat (first | refine blk_drewN ?_ _ | refine blk_drew ?_ | refine blk_alloc ?_ _)); exact BK200.out)) : gb200 ≠ gb201)); have n6_ := Aside0.mk ((by rw [hg]; exact Nat.ne_of_gt (blk_lt (g := gb200) (o := .cells #[.int .i64 a0_0, .int .u64 a0_1] 57 (0, 0)) (by (with_reducible repeat (first | refine blk_drewN ?_ _ | refine blk_drew ?_ | refine blk_alloc ?_ _)); exact BK200.out)) : gb201 ≠ gb200)); clear BK200; clear HB; have BK200 := n0_; have HB := n1_; have BK201 := n2_; have GW201 := n3_; have GE201 := n4_; have NB200_201 := n5_; have NB201_200 := n6_; clear n0_ n1_ n2_ n3_ n4_ n5_ n6_; clear hb hbox hg; have hnb8 := NB200_201.out; have hnc8 := NB201_200.out; have hcz9_0 : w7.cell? ⟨gb200, 0, none⟩ = some (.int .i64 a0_0) := (blk_cell BK200.out 0).trans rfl; have hcz9_1 : w7.cell? ⟨gb200, 1, none⟩ = some (.int .u64 a0_1) := (blk_cell BK200.out 1).trans rfl; have hfz9_0 := blk_frozen BK200.out 0; have hfz9_1 := blk_frozen BK200.out 1; have haddg10 := bits_Add64_run a0_1 (ji4) 0 (of_decide_eq_true (by first | (with_reducible assumption) | assumption)) (of_decide_eq_true (by first | (with_reducible assumption) | assumption)) (by omega) (by omega); have hcz11_0 : w7.cell? ⟨gb201, 0, none⟩ = some (.int .i64 0) := (blk_cell BK201.out 0).trans rfl; have hcz11_1 : w7.cell? ⟨gb201, 1, none⟩ = some (.int .u64 0) := (blk_cell BK201.out 1).trans rfl; have hfz11_0 := blk_frozen BK201.out 0; have hfz11_1 := blk_frozen BK201.out 1))
      refine bodyPost_ret (results_cell_row rfl _ _ gb201 57 #[.int .i64 (wrap64 ((wrap64 (a0_0 + (a1 / 9223372036854775808))) + (wrap64 ((a0_1 + (ji4)) / 18446744073709551616)))), .int .u64 ((a0_1 + (ji4)) % 18446744073709551616)] (0, 0) _ rfl (by (with_reducible repeat (first | refine blk_drewN ?_ _ | refine blk_drew ?_ | refine blk_alloc ?_ _)); refine blk_put (cs := #[.int .i64 (wrap64 ((wrap64 (a0_0 + (a1 / 9223372036854775808))) + (wrap64 ((a0_1 + (ji4)) / 18446744073709551616)))), .int .u64 0]) ?_ 1 _ rfl; (with_reducible repeat (first | refine blk_drewN ?_ _ | refine blk_drew ?_ | refine blk_alloc ?_ _)); refine blk_put (cs := #[.int .i64 0, .int .u64 0]) ?_ 0 _ rfl; (with_reducible repeat (first | refine blk_drewN ?_ _ | refine blk_drew ?_ | refine blk_alloc ?_ _)); exact BK201.out) Tryd.underlying57 rfl (by kernel_rfl)) rfl ?_
      exact ⟨by first | rfl | (simp [errW_none, errW_some] <;> rfl) | (simp only [← hji4]; first | rfl | (simp [errW_none, errW_some] <;> rfl)) | (simp [*, errW_none, errW_some] <;> rfl), by repeat (first | (with_reducible first | exact HB.out | apply below_alloc | apply pw_below_drewN | apply below_drew1 | refine below_set ?_ GE200.out | refine below_set ?_ GE201.out) | exact HB.out)⟩
    · rw [if_neg c5] at H
      exact absurd H (by simp)
  · rw [if_neg c3] at H
    exact absurd H (by simp)

/-! ### fix_Sum: function 30 -/
def fix_Sum.l0 : Nat → List Int → Int → Int → Int → Int → Option (Int × Bool)
  | 0, _, _, _, _, _ => none
  | k + 1, x8, x9, x10, x203000, x203001 => if x10 < x9 then (if 0 ≤ x10 then (if x10 < (x8.length : Int) then ((fix_wide_plus.f x203000 x203001 (rd x8 x10)).bind fun bt204 => (fix_Sum.l0 k x8 x9 (wrap64 (x10 + 1)) bt204.1 bt204.2)) else (none)) else (none)) else (if x203000 = ((wrap64 (x203001)) / 9223372036854775808) then (some (wrap64 (x203001), true)) else (some (0, false)))
def fix_Sum.f (k : Nat) (l0 : List Int) : Option (Int × Bool) := fix_Sum.l0 k l0 (l0.length : Int) 0 0 0
theorem fix_Sum.mono_l : ∀ k, (∀ y0 y1 y2 y3 y4, LeO (fix_Sum.l0 k y0 y1 y2 y3 y4) (fix_Sum.l0 (k + 1) y0 y1 y2 y3 y4))
  | 0 => fun _ _ _ _ _ r h => by simp [fix_Sum.l0] at h
  | k + 1 => by
    have ih0 := fix_Sum.mono_l k
    · intro y0 y1 y2 y3 y4
      unfold fix_Sum.l0
      repeat' first
      | (with_reducible exact ih0 _ _ _ _ _)
      | (with_reducible exact LeO.refl _)
      | (with_reducible exact LeO.none _)
      | (with_reducible refine LeO.ite ?_ ?_)
      | (with_reducible refine LeO.bind ?_ (fun _ => ?_))
      | exact ih0 _ _ _ _ _
      | exact LeO.none _
      | refine LeO.ite ?_ ?_
      | refine LeO.bind ?_ (fun _ => ?_)
theorem fix_Sum.mono : ∀ a0 k, LeO (fix_Sum.f k a0) (fix_Sum.f (k + 1) a0) := by
  intro a0 k
  have ih0 := fix_Sum.mono_l k
  unfold fix_Sum.f
  repeat' first
      | (with_reducible exact ih0 _ _ _ _ _)
      | (with_reducible exact LeO.refl _)
      | (with_reducible exact LeO.none _)
      | (with_reducible refine LeO.ite ?_ ?_)
      | (with_reducible refine LeO.bind ?_ (fun _ => ?_))
      | exact ih0 _ _ _ _ _
      | exact LeO.none _
      | refine LeO.ite ?_ ?_
      | refine LeO.bind ?_ (fun _ => ?_)
set_option maxHeartbeats 8000000 in
set_option maxRecDepth 100000 in
theorem fix_Sum.calls [Inhabited (Int → Addr)] (k : Nat) (A0 : Option Addr) (c0 : Nat) (l0 : List Int) (r1 : Int) (r2 : Bool) (w : World) (hr0 : Kd.C (Kd.int .i64) w A0 l0.length l0) (hc0 : l0.length ≤ c0) (h : fix_Sum.f k l0 = some (r1, r2)) :
    Calls Tryd.prog 30 #[.slice A0 l0.length c0] w fun e w' => e = .returned (.tuple #[.int .i64 r1, .bool r2]) ∧ Below w.heap.size w w' := by
  have hu57 := Tryd.underlying57
  have HR0 := Aside0.mk hr0
  have HC0 := Aside0.mk hc0
  clear hr0 hc0
  have HB := Aside0.mk (Below.refl w.heap.size w)
  have H : (fix_Sum.l0 k l0 (l0.length : Int) 0 0 0) = some (r1, r2) := h
  clear h
  have H' := Aside0.mk H
  clear H
  go_enter Tryd.func30, Tryd.ntmps30
  go_wp2_with (first | ((with_reducible refine gate_dst (N := 4) rfl ?_); refine box_event ?hg (N := 4) ?hd (cs := #[.int .i64 0, .int .u64 0]) (t := 57) ?hr ?_; (case hd => rfl); (case hg => rfl); (case hr => first | (go_simp; done) | (go_simp; rfl)); intro gb202 hg w2 hbox hb; have n0_ := Aside0.mk (below_step (by repeat (first | (with_reducible first | exact HB.out | apply below_alloc | apply pw_below_drewN | apply below_drew1) | exact HB.out)) hb); have n1_ := Aside0.mk (hbox); have n2_ := Aside0.mk ((by rw [hg]; exact (below_size (by repeat (first | (with_reducible first | exact HB.out | apply below_alloc | apply pw_below_drewN | apply below_drew1) | exact HB.out))) : w.heap.size ≤ gb202)); have n3_ := Aside0.mk ((by rw [hg]; exact (below_size (by repeat (first | (with_reducible first | exact HB.out | apply below_alloc | apply pw_below_drewN | apply below_drew1) | exact HB.out))) : w.heap.size ≤ gb202)); clear HB; have HB := n0_; have BK202 := n1_; have GW202 := n2_; have GE202 := n3_; clear n0_ n1_ n2_ n3_; clear hb hbox hg))
  go_loopg [10] k (fun kq v10 w' => ∃ (x10_1 : Int) (x203000_1 : Int) (x203001_1 : Int), v10 = .int .i64 x10_1 ∧ Aside0 (fix_Sum.l0 kq l0 (l0.length : Int) x10_1 x203000_1 x203001_1 = some (r1, r2)) ∧ Aside0 (kq ≤ k) ∧ Aside0 (w'.heap[gb202]? = some (.cells #[.int .i64 x203000_1, .int .u64 x203001_1] 57 (0, 0))) ∧ Aside0 (Below w.heap.size w w'))
  case atStart => exact ⟨(0), (0), (0), (by first | rfl | (simp; done) | (simp [*]; done)), H', ⟨Nat.le_refl _⟩, ⟨by (with_reducible repeat (first | refine blk_drewN ?_ _ | refine blk_drew ?_ | refine blk_alloc ?_ _)); exact BK202.out⟩, ⟨by repeat (first | (with_reducible first | exact HB.out | apply below_alloc | apply pw_below_drewN | apply below_drew1 | refine below_set ?_ GE202.out) | exact HB.out)⟩⟩
  case round =>
    clear H'
    try clear p2
    obtain ⟨x10_1, x203000_1, x203001_1, rfl, HA, HK1, BK202, HB⟩ := hrel
    cases gk with
    | zero => exact absurd HA.out (by simp [fix_Sum.l0])
    | succ k1 =>
      have H := HA.out
      clear HA
      simp only [fix_Sum.l0] at H
      by_cases c3 : x10_1 < (l0.length : Int)
      · rw [if_pos c3] at H
        have c3b0 : decide (x10_1 < (l0.length : Int)) = true := decide_eq_true c3
        clear c3
        by_cases c4 : 0 ≤ x10_1
        · rw [if_pos c4] at H
          have c4b0 : decide (0 ≤ x10_1) = true := decide_eq_true c4
          clear c4
          by_cases c5 : x10_1 < (l0.length : Int)
          · rw [if_pos c5] at H
            have c5b0 : decide (x10_1 < (l0.length : Int)) = true := decide_eq_true c5
            clear c5
            replace H := Option.bind_eq_some_iff.mp H
            obtain ⟨⟨t204, t205⟩, A60, H⟩ := H
            replace H : (fix_Sum.l0 k1 l0 (l0.length : Int) (wrap64 (x10_1 + 1)) t204 t205) = some (r1, r2) := H
            have A6 := Aside0.mk A60
            clear A60
            have H' := Aside0.mk H
            clear H
            have p203 : 0 ≤ (x10_1 : Int) := of_decide_eq_true (by first | (with_reducible assumption) | assumption)
            have q203 : x10_1 < (l0.length : Int) := of_decide_eq_true (by first | (with_reducible assumption) | assumption)
            obtain ⟨ad203, e203, hx203_0⟩ := Kd.at_int HR0.out x10_1 p203 q203
            cases e203
            replace hx203_0 := (HB.out.cell (World.block_lt_of_cell? w _ hx203_0)).trans hx203_0
            replace p203 := eq_true p203
            replace q203 := eq_true q203
            have hcz7_0 : wr.cell? ⟨gb202, 0, none⟩ = some (.int .i64 x203000_1) := (blk_cell BK202.out 0).trans rfl
            have hcz7_1 : wr.cell? ⟨gb202, 1, none⟩ = some (.int .u64 x203001_1) := (blk_cell BK202.out 1).trans rfl
            have hfz7_0 := blk_frozen BK202.out 0
            have hfz7_1 := blk_frozen BK202.out 1
            go_wp2_with (first | ((with_reducible refine gate_callee (f := 36) rfl ?_); refine goesL_ (some 16) rfl rfl Tryd.func36 (by kernel_rfl) rfl #[.agg #[.int .i64 x203000_1, .int .u64 x203001_1], .int .i64 (rd l0 x10_1)] rfl (by (try simp only [List.map_toArray, List.map_cons, List.map_nil]); first | done | rfl | (simp only [List.length_drop, List.length_take]; rfl)) ?_; (with_reducible refine (fix_wide_plus.calls x203000_1 x203001_1 (rd l0 x10_1) t204 t205 _ A6.out).mono ?_); rintro e w8 ⟨rfl, hb⟩; refine ⟨_, rfl, ?_⟩; have n0_ := Aside0.mk (blk_below (g := gb202) (o := .cells #[.int .i64 x203000_1, .int .u64 x203001_1] 57 (0, 0)) (by (with_reducible repeat (first | refine blk_drewN ?_ _ | refine blk_drew ?_ | refine blk_alloc ?_ _)); exact BK202.out) hb); have n1_ := Aside0.mk (below_step (by repeat (first | (with_reducible first | exact HB.out | apply below_alloc | apply pw_below_drewN | apply below_drew1 | refine below_set ?_ GE202.out) | exact HB.out)) hb); clear BK202; clear HB; have BK202 := n0_; have HB := n1_; clear n0_ n1_; (try clear hb); (try clear hb2); (try clear hk); (try clear hi); have hcz9_0 : w8.cell? ⟨gb202, 0, none⟩ = some (.int .i64 x203000_1) := (blk_cell BK202.out 0).trans rfl; have hcz9_1 : w8.cell? ⟨gb202, 1, none⟩ = some (.int .u64 x203001_1) := (blk_cell BK202.out 1).trans rfl; have hfz9_0 := blk_frozen BK202.out 0; have hfz9_1 := blk_frozen BK202.out 1))
            go_roundg k1
            case measure => have := HK1.out; omega
            case rel => exact ⟨(wrap64 (x10_1 + 1)), (t204), (t205), (by first | rfl | (simp; done) | (simp [*]; done)), H', ⟨by have := HK1.out; omega⟩, ⟨by (with_reducible repeat (first | refine blk_drewN ?_ _ | refine blk_drew ?_ | refine blk_alloc ?_ _)); refine blk_put (cs := #[.int .i64 t204, .int .u64 x203001_1]) ?_ 1 _ rfl; (with_reducible repeat (first | refine blk_drewN ?_ _ | refine blk_drew ?_ | refine blk_alloc ?_ _)); refine blk_put (cs := #[.int .i64 x203000_1, .int .u64 x203001_1]) ?_ 0 _ rfl; (with_reducible repeat (first | refine blk_drewN ?_ _ | refine blk_drew ?_ | refine blk_alloc ?_ _)); exact BK202.out⟩, ⟨by repeat (first | (with_reducible first | exact HB.out | apply below_alloc | apply pw_below_drewN | apply below_drew1 | refine below_set ?_ GE202.out) | exact HB.out)⟩⟩
          · rw [if_neg c5] at H
            exact absurd H (by simp)
        · rw [if_neg c4] at H
          exact absurd H (by simp)
      · rw [if_neg c3] at H
        have c3b0 : decide (x10_1 < (l0.length : Int)) = false := decide_eq_false c3
        clear c3
        by_cases c10 : x203000_1 = ((wrap64 (x203001_1)) / 9223372036854775808)
        · rw [if_pos c10] at H
          have c10b0 : (x203000_1 == ((wrap64 (x203001_1)) / 9223372036854775808)) = true := beq_iff_eq.mpr c10
          have c10b1 : (x203000_1 != ((wrap64 (x203001_1)) / 9223372036854775808)) = false := bne_eq_false_iff_eq.mpr c10
          clear c10
          simp only [Option.some.injEq, Prod.mk.injEq] at H
          obtain ⟨rfl, rfl⟩ := H
          have hcz11_0 : wr.cell? ⟨gb202, 0, none⟩ = some (.int .i64 x203000_1) := (blk_cell BK202.out 0).trans rfl
          have hcz11_1 : wr.cell? ⟨gb202, 1, none⟩ = some (.int .u64 x203001_1) := (blk_cell BK202.out 1).trans rfl
          have hfz11_0 := blk_frozen BK202.out 0
          have hfz11_1 := blk_frozen BK202.out 1
          go_wp2
          go_ret2
          exact ⟨by first | rfl | (simp [errW_none, errW_some] <;> rfl) | (simp [*, errW_none, errW_some] <;> rfl), by repeat (first | (with_reducible first | exact HB.out | apply below_alloc | apply pw_below_drewN | apply below_drew1 | refine below_set ?_ GE202.out) | exact HB.out)⟩
        · rw [if_neg c10] at H
          have c10b0 : (x203000_1 == ((wrap64 (x203001_1)) / 9223372036854775808)) = false := beq_eq_false_iff_ne.mpr c10
          have c10b1 : (x203000_1 != ((wrap64 (x203001_1)) / 9223372036854775808)) = true := bne_iff_ne.mpr c10
          simp only [Option.some.injEq, Prod.mk.injEq] at H
          obtain ⟨rfl, rfl⟩ := H
          have hcz12_0 : wr.cell? ⟨gb202, 0, none⟩ = some (.int .i64 x203000_1) := (blk_cell BK202.out 0).trans rfl
          have hcz12_1 : wr.cell? ⟨gb202, 1, none⟩ = some (.int .u64 x203001_1) := (blk_cell BK202.out 1).trans rfl
          have hfz12_0 := blk_frozen BK202.out 0
          have hfz12_1 := blk_frozen BK202.out 1
          go_wp2
          go_ret2
          exact ⟨by first | rfl | (simp [errW_none, errW_some] <;> rfl) | (simp [*, errW_none, errW_some] <;> rfl), by repeat (first | (with_reducible first | exact HB.out | apply below_alloc | apply pw_below_drewN | apply below_drew1 | refine below_set ?_ GE202.out) | exact HB.out)⟩

end Go.Proofs.YtnkpfkniebhfkaaDoor.EMoneySays
