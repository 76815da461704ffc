/- The functions that the law comes to, as plain functions, and for each a proof that the Go code comes to just these answers. Written by a program of this claim. Conditions: each theorem bears its own. -/
import Derived.Test.YtambndaimehpmaaDoorEFxBasex0
import Derived.Test.YtambndaimehpmaaDoorEFxBasex1
import Derived.Test.YtambndaimehpmaaDoorEFxBasex2
namespace Go.Proofs.YtambndaimehpmaaDoor.EFxBase
open Go.RowKit Go.Proofs.YtambndaimehpmaaDoorW.PrintWords Go.Proofs.YtambndaimehpmaaDoorW.PrintLast Go.Proofs.YtambndaimehpmaaDoorW.PrintMore Go.Proofs.YtambndaimehpmaaDoorW.PrintOpen
attribute [local go_sem] max2_int min2_int max_two min_two max_three min_three max_four min_four   -- for this text's walks alone
set_option linter.unusedVariables false
set_option linter.unusedSimpArgs false

/-! ### fix_Div: function 30 -/
mutual
def fix_Div.j0 : Nat → Bool → Int → Int → Bool → Option (Int × Bool)
  | 0, _, _, _, _ => none
  | k + 1, x3, x17, x18, x19 => if x18 > 0 then (fix_Div.j1 k x17 x19 (x3 != x19)) else (fix_Div.j1 k x17 x19 false)
def fix_Div.j1 : Nat → Int → Bool → Bool → Option (Int × Bool)
  | 0, _, _, _ => none
  | k + 1, x17, x19, x65 => if x65 = true then (if (IntKind.u64.wrap (x17 + 1)) = 0 then (some (0, false)) else ((fix_signed.f k (IntKind.u64.wrap (x17 + 1)) x19).bind fun bt137 => (some (bt137.1, bt137.2)))) else ((fix_signed.f k x17 x19).bind fun bt139 => (some (bt139.1, bt139.2)))
end
def fix_Div.f (k : Nat) (a0 : Int) (a1 : Int) (a2 : Int) (a3 : Bool) : Option (Int × Bool) := if a2 ≤ 0 then (some (0, false)) else ((fix_size.f a0).bind fun bt129 => ((fix_size.f a1).bind fun bt131 => ((fix_Wide.f bt129.1 bt131.1).bind fun bt133 => (if bt133.1 ≥ (IntKind.u64.wrap (a2)) then (some (0, false)) else ((bits_Div64.f k bt133.1 bt133.2 (IntKind.u64.wrap (a2))).bind fun bt135 => (if (bt129.2 != bt131.2) = true then (fix_Div.j0 k a3 bt135.1 bt135.2 ((Go.bits .or .u64 bt133.1 bt133.2) != 0)) else (fix_Div.j0 k a3 bt135.1 bt135.2 false)))))))
theorem fix_Div.mono_l : ∀ k, (∀ y0 y1 y2 y3, LeO (fix_Div.j0 k y0 y1 y2 y3) (fix_Div.j0 (k + 1) y0 y1 y2 y3)) ∧ (∀ y0 y1 y2, LeO (fix_Div.j1 k y0 y1 y2) (fix_Div.j1 (k + 1) y0 y1 y2))
  | 0 => ⟨fun _ _ _ _ r h => by simp [fix_Div.j0] at h, fun _ _ _ r h => by simp [fix_Div.j1] at h⟩
  | k + 1 => by
    obtain ⟨ih0, ih1⟩ := fix_Div.mono_l k
    refine ⟨?_, ?_⟩
    · intro y0 y1 y2 y3
      unfold fix_Div.j0
      repeat' first
      | (with_reducible exact ih0 _ _ _ _)
      | (with_reducible exact ih1 _ _ _)
      | (with_reducible exact bits_Div64.mono _ _ _ _)
      | (with_reducible exact fix_signed.mono _ _ _)
      | (with_reducible exact LeO.refl _)
      | (with_reducible exact LeO.none _)
      | (with_reducible refine LeO.ite ?_ ?_)
      | (with_reducible refine LeO.bind ?_ (fun _ => ?_))
      | exact ih0 _ _ _ _
      | exact ih1 _ _ _
      | exact bits_Div64.mono _ _ _ _
      | exact fix_signed.mono _ _ _
      | exact LeO.none _
      | refine LeO.ite ?_ ?_
      | refine LeO.bind ?_ (fun _ => ?_)
    · intro y0 y1 y2
      unfold fix_Div.j1
      repeat' first
      | (with_reducible exact ih0 _ _ _ _)
      | (with_reducible exact ih1 _ _ _)
      | (with_reducible exact bits_Div64.mono _ _ _ _)
      | (with_reducible exact fix_signed.mono _ _ _)
      | (with_reducible exact LeO.refl _)
      | (with_reducible exact LeO.none _)
      | (with_reducible refine LeO.ite ?_ ?_)
      | (with_reducible refine LeO.bind ?_ (fun _ => ?_))
      | exact ih0 _ _ _ _
      | exact ih1 _ _ _
      | exact bits_Div64.mono _ _ _ _
      | exact fix_signed.mono _ _ _
      | exact LeO.none _
      | refine LeO.ite ?_ ?_
      | refine LeO.bind ?_ (fun _ => ?_)
theorem fix_Div.mono : ∀ a0 a1 a2 a3 k, LeO (fix_Div.f k a0 a1 a2 a3) (fix_Div.f (k + 1) a0 a1 a2 a3) := by
  intro a0 a1 a2 a3 k
  obtain ⟨ih0, ih1⟩ := fix_Div.mono_l k
  unfold fix_Div.f
  repeat' first
      | (with_reducible exact ih0 _ _ _ _)
      | (with_reducible exact ih1 _ _ _)
      | (with_reducible exact bits_Div64.mono _ _ _ _)
      | (with_reducible exact fix_signed.mono _ _ _)
      | (with_reducible exact LeO.refl _)
      | (with_reducible exact LeO.none _)
      | (with_reducible refine LeO.ite ?_ ?_)
      | (with_reducible refine LeO.bind ?_ (fun _ => ?_))
      | exact ih0 _ _ _ _
      | exact ih1 _ _ _
      | exact bits_Div64.mono _ _ _ _
      | exact fix_signed.mono _ _ _
      | exact LeO.none _
      | refine LeO.ite ?_ ?_
      | refine LeO.bind ?_ (fun _ => ?_)
set_option maxHeartbeats 8000000 in
set_option maxRecDepth 100000 in
theorem fix_Div.calls [Inhabited (Int → Addr)] (k : Nat) (a0 : Int) (a1 : Int) (a2 : Int) (a3 : Bool) (r1 : Int) (r2 : Bool) (w : World) (hG : GlobOK w) (h : fix_Div.f k a0 a1 a2 a3 = some (r1, r2)) :
    Calls Tryd.prog 30 #[.int .i64 a0, .int .i64 a1, .int .i64 a2, .bool a3] w fun e w' => e = .returned (.tuple #[.int .i64 r1, .bool r2]) ∧ Below w.heap.size w w' := by
  have HG := Aside0.mk hG
  clear hG
  have HB := Aside0.mk (Below.refl w.heap.size w)
  have H : (if a2 ≤ 0 then (some (0, false)) else ((fix_size.f a0).bind fun bt129 => ((fix_size.f a1).bind fun bt131 => ((fix_Wide.f bt129.1 bt131.1).bind fun bt133 => (if bt133.1 ≥ (IntKind.u64.wrap (a2)) then (some (0, false)) else ((bits_Div64.f k bt133.1 bt133.2 (IntKind.u64.wrap (a2))).bind fun bt135 => (if (bt129.2 != bt131.2) = true then (fix_Div.j0 k a3 bt135.1 bt135.2 ((Go.bits .or .u64 bt133.1 bt133.2) != 0)) else (fix_Div.j0 k a3 bt135.1 bt135.2 false)))))))) = some (r1, r2) := h
  clear h
  by_cases c5 : a2 ≤ 0
  · rw [if_pos c5] at H
    have c5b0 : decide (a2 ≤ 0) = true := decide_eq_true c5
    clear c5
    simp only [Option.some.injEq, Prod.mk.injEq] at H
    obtain ⟨rfl, rfl⟩ := H
    go_enter Tryd.func30, Tryd.ntmps30
    go_wp2
    go_ret2
    exact ⟨by first | rfl | (simp [errW_none, errW_some] <;> rfl) | (exfalso; simp_all; done) | (simp [*, errW_none, errW_some] <;> rfl), by repeat (first | (with_reducible first | exact HB.out | apply below_alloc | apply pw_below_drewN | apply below_drew1) | exact HB.out)⟩
  · rw [if_neg c5] at H
    have c5b0 : decide (a2 ≤ 0) = false := decide_eq_false c5
    clear c5
    replace H := Option.bind_eq_some_iff.mp H
    obtain ⟨⟨t129, t130⟩, A60, H⟩ := H
    replace H : ((fix_size.f a1).bind fun bt131 => ((fix_Wide.f t129 bt131.1).bind fun bt133 => (if bt133.1 ≥ (IntKind.u64.wrap (a2)) then (some (0, false)) else ((bits_Div64.f k bt133.1 bt133.2 (IntKind.u64.wrap (a2))).bind fun bt135 => (if (t130 != bt131.2) = true then (fix_Div.j0 k a3 bt135.1 bt135.2 ((Go.bits .or .u64 bt133.1 bt133.2) != 0)) else (fix_Div.j0 k a3 bt135.1 bt135.2 false)))))) = some (r1, r2) := H
    have A6 := Aside0.mk A60
    clear A60
    replace H := Option.bind_eq_some_iff.mp H
    obtain ⟨⟨t131, t132⟩, A70, H⟩ := H
    replace H : ((fix_Wide.f t129 t131).bind fun bt133 => (if bt133.1 ≥ (IntKind.u64.wrap (a2)) then (some (0, false)) else ((bits_Div64.f k bt133.1 bt133.2 (IntKind.u64.wrap (a2))).bind fun bt135 => (if (t130 != t132) = true then (fix_Div.j0 k a3 bt135.1 bt135.2 ((Go.bits .or .u64 bt133.1 bt133.2) != 0)) else (fix_Div.j0 k a3 bt135.1 bt135.2 false))))) = some (r1, r2) := H
    have A7 := Aside0.mk A70
    clear A70
    replace H := Option.bind_eq_some_iff.mp H
    obtain ⟨⟨t133, t134⟩, A80, H⟩ := H
    replace H : (if t133 ≥ (IntKind.u64.wrap (a2)) then (some (0, false)) else ((bits_Div64.f k t133 t134 (IntKind.u64.wrap (a2))).bind fun bt135 => (if (t130 != t132) = true then (fix_Div.j0 k a3 bt135.1 bt135.2 ((Go.bits .or .u64 t133 t134) != 0)) else (fix_Div.j0 k a3 bt135.1 bt135.2 false)))) = some (r1, r2) := H
    have A8 := Aside0.mk A80
    clear A80
    by_cases c9 : t133 ≥ (IntKind.u64.wrap (a2))
    · rw [if_pos c9] at H
      have c9b0 : decide ((IntKind.u64.wrap (a2)) ≤ t133) = true := decide_eq_true c9
      clear c9
      simp only [Option.some.injEq, Prod.mk.injEq] at H
      obtain ⟨rfl, rfl⟩ := H
      go_enter Tryd.func30, Tryd.ntmps30
      go_wp2_with (first | ((with_reducible refine gate_callee (f := 37) rfl ?_); refine goesL_ (some 24) rfl rfl Tryd.func37 (by kernel_rfl) rfl #[.int .i64 a0] rfl (by (try simp only [List.map_toArray, List.map_cons, List.map_nil]); first | done | rfl | (simp only [List.length_drop, List.length_take]; rfl)) ?_; (with_reducible refine (fix_size.calls a0 t129 t130 _ A6.out).mono ?_); rintro e w' ⟨rfl, ⟨nd, rfl⟩⟩; refine ⟨_, rfl, ?_⟩) | ((with_reducible refine gate_callee (f := 37) rfl ?_); refine goesL_ (some 29) rfl rfl Tryd.func37 (by kernel_rfl) rfl #[.int .i64 a1] rfl (by (try simp only [List.map_toArray, List.map_cons, List.map_nil]); first | done | rfl | (simp only [List.length_drop, List.length_take]; rfl)) ?_; (with_reducible refine (fix_size.calls a1 t131 t132 _ A7.out).mono ?_); rintro e w' ⟨rfl, ⟨nd, rfl⟩⟩; refine ⟨_, rfl, ?_⟩) | ((with_reducible refine gate_callee (f := 38) rfl ?_); refine goesL_ (some 35) rfl rfl Tryd.func38 (by kernel_rfl) rfl #[.int .u64 t129, .int .u64 t131] rfl (by (try simp only [List.map_toArray, List.map_cons, List.map_nil]); first | done | rfl | (simp only [List.length_drop, List.length_take]; rfl)) ?_; (with_reducible refine (fix_Wide.calls t129 t131 t133 t134 _ A8.out).mono ?_); rintro e w' ⟨rfl, ⟨nd, rfl⟩⟩; refine ⟨_, rfl, ?_⟩))
      go_ret2
      exact ⟨by first | rfl | (simp [errW_none, errW_some] <;> rfl) | (exfalso; simp_all; done) | (simp [*, errW_none, errW_some] <;> rfl), by repeat (first | (with_reducible first | exact HB.out | apply below_alloc | apply pw_below_drewN | apply below_drew1) | exact HB.out)⟩
    · rw [if_neg c9] at H
      have c9b0 : decide ((IntKind.u64.wrap (a2)) ≤ t133) = false := decide_eq_false c9
      clear c9
      replace H := Option.bind_eq_some_iff.mp H
      obtain ⟨⟨t135, t136⟩, A100, H⟩ := H
      replace H : (if (t130 != t132) = true then (fix_Div.j0 k a3 t135 t136 ((Go.bits .or .u64 t133 t134) != 0)) else (fix_Div.j0 k a3 t135 t136 false)) = some (r1, r2) := H
      have A10 := Aside0.mk A100
      clear A100
      have HC11 := Aside0.mk H
      clear H
      go_enter Tryd.func30, Tryd.ntmps30
      go_upto_region 10 with (first | ((with_reducible refine gate_callee (f := 37) rfl ?_); refine goesL_ (some 24) rfl rfl Tryd.func37 (by kernel_rfl) rfl #[.int .i64 a0] rfl (by (try simp only [List.map_toArray, List.map_cons, List.map_nil]); first | done | rfl | (simp only [List.length_drop, List.length_take]; rfl)) ?_; (with_reducible refine (fix_size.calls a0 t129 t130 _ A6.out).mono ?_); rintro e w' ⟨rfl, ⟨nd, rfl⟩⟩; refine ⟨_, rfl, ?_⟩) | ((with_reducible refine gate_callee (f := 37) rfl ?_); refine goesL_ (some 29) rfl rfl Tryd.func37 (by kernel_rfl) rfl #[.int .i64 a1] rfl (by (try simp only [List.map_toArray, List.map_cons, List.map_nil]); first | done | rfl | (simp only [List.length_drop, List.length_take]; rfl)) ?_; (with_reducible refine (fix_size.calls a1 t131 t132 _ A7.out).mono ?_); rintro e w' ⟨rfl, ⟨nd, rfl⟩⟩; refine ⟨_, rfl, ?_⟩) | ((with_reducible refine gate_callee (f := 38) rfl ?_); refine goesL_ (some 35) rfl rfl Tryd.func38 (by kernel_rfl) rfl #[.int .u64 t129, .int .u64 t131] rfl (by (try simp only [List.map_toArray, List.map_cons, List.map_nil]); first | done | rfl | (simp only [List.length_drop, List.length_take]; rfl)) ?_; (with_reducible refine (fix_Wide.calls t129 t131 t133 t134 _ A8.out).mono ?_); rintro e w' ⟨rfl, ⟨nd, rfl⟩⟩; refine ⟨_, rfl, ?_⟩) | ((with_reducible refine gate_callee (f := 39) rfl ?_); refine goesL_ (some 47) rfl rfl Tryd.func39 (by kernel_rfl) rfl #[.int .u64 t133, .int .u64 t134, .int .u64 (IntKind.u64.wrap (a2))] rfl (by (try simp only [List.map_toArray, List.map_cons, List.map_nil]); first | done | rfl | (simp only [List.length_drop, List.length_take]; rfl)) ?_; (with_reducible refine (bits_Div64.calls k t133 t134 (IntKind.u64.wrap (a2)) t135 t136 _ ?side1 A10.out).mono ?_); (case side1 => exact GlobOK.below HG.out (by repeat (first | (with_reducible first | exact HB.out | apply below_alloc | apply pw_below_drewN | apply below_drew1) | exact HB.out))); rintro e w12 ⟨rfl, hb⟩; refine ⟨_, rfl, ?_⟩; have n0_ := Aside0.mk (below_step (by repeat (first | (with_reducible first | exact HB.out | apply below_alloc | apply pw_below_drewN | apply below_drew1) | exact HB.out)) hb); clear HB; have HB := n0_; clear n0_; (try clear hb); (try clear hb2); (try clear hk); (try clear hi)))
      (try simp only [Act.put, List.setIfInBounds_toArray, List.set_cons_zero, List.set_cons_succ])
      go_cut [19] (fun v19 wc => ∃ (kq : Nat) (x19_10 : Bool), v19 = .bool x19_10 ∧ Aside0 (fix_Div.j0 kq a3 t135 t136 x19_10 = some (r1, r2)) ∧ Aside0 (kq ≤ k) ∧ Aside0 (Below w.heap.size w wc))
      case first =>
        have H := HC11.out
        clear HC11
        by_cases c13 : (t130 != t132) = true
        · rw [if_pos c13] at H
          have c13b0 : (t130 != t132) = true := c13
          (try (have c13b1 : decide (t130 = t132) = false := by simpa using c13))
          (try (have c13b2 : (t130 == t132) = false := by simpa using c13))
          (try (have c13b3 : ¬ (t130 = t132) := by simpa using c13))
          clear c13
          (first | rw [c13b0] | (simp only [i64_w, i32_w]; rw [c13b0]) | skip)
          have H' := Aside0.mk H
          clear H
          go_wp2
          go_meet
          case rel => exact ⟨_, (((Go.bits .or .u64 t133 t134) != 0)), (by first | rfl | (simp; done) | (simp [*]; done) | (simp [wrap64]; done) | (simp [wrap64]; omega)), H', ⟨by first | omega | exact Nat.le_refl _⟩, ⟨by repeat (first | (with_reducible first | exact HB.out | apply below_alloc | apply pw_below_drewN | apply below_drew1) | exact HB.out)⟩⟩
        · rw [if_neg c13] at H
          have c13b0 : (t130 != t132) = false := by simpa using c13
          (try (have c13b1 : decide (t130 = t132) = true := by simpa using c13))
          (try (have c13b2 : (t130 == t132) = true := by simpa using c13))
          clear c13
          (first | rw [c13b0] | (simp only [i64_w, i32_w]; rw [c13b0]) | skip)
          have H' := Aside0.mk H
          clear H
          go_wp2
          go_meet
          case rel => exact ⟨_, (false), (by first | rfl | (simp; done) | (simp [*]; done) | (simp [wrap64]; done) | (simp [wrap64]; omega)), H', ⟨by first | omega | exact Nat.le_refl _⟩, ⟨by repeat (first | (with_reducible first | exact HB.out | apply below_alloc | apply pw_below_drewN | apply below_drew1) | exact HB.out)⟩⟩
      case rest =>
        clear HC11
        try clear c1
        try clear p2
        try clear c3
        try clear c5
        try clear c5b0
        try clear c9
        try clear c9b0
        try clear c13
        try clear c13b0
        try clear c13b1
        try clear c13b2
        obtain ⟨kq, x19_10, rfl, HA, HJ10, HB⟩ := hcut
        cases kq with
        | zero => exact absurd HA.out (by simp [fix_Div.j0])
        | succ kj10 =>
          have H := HA.out
          clear HA
          simp only [fix_Div.j0] at H
          have HC14 := Aside0.mk H
          clear H
          go_upto_region 11 with (fail)
          go_cut [65] (fun v65 wc => ∃ (kq : Nat) (x65_13 : Bool), v65 = .bool x65_13 ∧ Aside0 (fix_Div.j1 kq t135 x19_10 x65_13 = some (r1, r2)) ∧ Aside0 (kq ≤ kj10) ∧ Aside0 (Below w.heap.size w wc))
          case first =>
            have H := HC14.out
            clear HC14
            by_cases c15 : t136 > 0
            · rw [if_pos c15] at H
              have c15b0 : decide (0 < t136) = true := decide_eq_true c15
              clear c15
              (first | rw [c15b0] | (simp only [i64_w, i32_w]; rw [c15b0]) | skip)
              have H' := Aside0.mk H
              clear H
              go_wp2
              go_meet
              case rel => exact ⟨_, ((a3 != x19_10)), (by first | rfl | (simp; done) | (simp [*]; done) | (simp [wrap64]; done) | (simp [wrap64]; omega)), H', ⟨by have := HJ10.out; first | omega | exact Nat.le_refl _⟩, ⟨by repeat (first | (with_reducible first | exact HB.out | apply below_alloc | apply pw_below_drewN | apply below_drew1) | exact HB.out)⟩⟩
            · rw [if_neg c15] at H
              have c15b0 : decide (0 < t136) = false := decide_eq_false c15
              clear c15
              (first | rw [c15b0] | (simp only [i64_w, i32_w]; rw [c15b0]) | skip)
              have H' := Aside0.mk H
              clear H
              go_wp2
              go_meet
              case rel => exact ⟨_, (false), (by first | rfl | (simp; done) | (simp [*]; done) | (simp [wrap64]; done) | (simp [wrap64]; omega)), H', ⟨by have := HJ10.out; first | omega | exact Nat.le_refl _⟩, ⟨by repeat (first | (with_reducible first | exact HB.out | apply below_alloc | apply pw_below_drewN | apply below_drew1) | exact HB.out)⟩⟩
          case rest =>
            clear HC14
            try clear c1
            try clear p2
            try clear c3
            try clear c5
            try clear c5b0
            try clear c9
            try clear c9b0
            try clear c13
            try clear c13b0
            try clear c13b1
            try clear c13b2
            try clear c15
            try clear c15b0
            try clear p2
            obtain ⟨kq, x65_13, rfl, HA, HJ13, HB⟩ := hcut
            cases kq with
            | zero => exact absurd HA.out (by simp [fix_Div.j1])
            | succ kj13 =>
              have H := HA.out
              clear HA
              simp only [fix_Div.j1] at H
              by_cases c16 : x65_13 = true
              · subst c16
                have H1 : (if (IntKind.u64.wrap (t135 + 1)) = 0 then (some (0, false)) else ((fix_signed.f kj13 (IntKind.u64.wrap (t135 + 1)) x19_10).bind fun bt137 => (some (bt137.1, bt137.2)))) = some (r1, r2) := by rw [if_pos rfl] at H; exact H
                clear H
                have H := H1
                clear H1
                by_cases c17 : (IntKind.u64.wrap (t135 + 1)) = 0
                · rw [if_pos c17] at H
                  have c17b0 : ((IntKind.u64.wrap (t135 + 1)) == 0) = true := beq_iff_eq.mpr c17
                  have c17b1 : ((IntKind.u64.wrap (t135 + 1)) != 0) = false := bne_eq_false_iff_eq.mpr c17
                  clear c17
                  simp only [Option.some.injEq, Prod.mk.injEq] at H
                  obtain ⟨rfl, rfl⟩ := H
                  go_wp2
                  go_ret2
                  exact ⟨by first | rfl | (simp [errW_none, errW_some] <;> rfl) | (exfalso; simp_all; done) | (simp [*, errW_none, errW_some] <;> rfl), by repeat (first | (with_reducible first | exact HB.out | apply below_alloc | apply pw_below_drewN | apply below_drew1) | exact HB.out)⟩
                · rw [if_neg c17] at H
                  have c17b0 : ((IntKind.u64.wrap (t135 + 1)) == 0) = false := beq_eq_false_iff_ne.mpr c17
                  have c17b1 : ((IntKind.u64.wrap (t135 + 1)) != 0) = true := bne_iff_ne.mpr c17
                  replace H := Option.bind_eq_some_iff.mp H
                  obtain ⟨⟨t137, t138⟩, A180, H⟩ := H
                  replace H : (some (t137, t138)) = some (r1, r2) := H
                  have A18 := Aside0.mk A180
                  clear A180
                  simp only [Option.some.injEq, Prod.mk.injEq] at H
                  obtain ⟨rfl, rfl⟩ := H
                  go_wp2_with (first | ((with_reducible refine gate_callee (f := 40) rfl ?_); refine goesL_ (some 72) rfl rfl Tryd.func40 (by kernel_rfl) rfl #[.int .u64 (IntKind.u64.wrap (t135 + 1)), .bool x19_10] rfl (by (try simp only [List.map_toArray, List.map_cons, List.map_nil]); first | done | rfl | (simp only [List.length_drop, List.length_take]; rfl)) ?_; (with_reducible refine (fix_signed.calls kj13 (IntKind.u64.wrap (t135 + 1)) x19_10 t137 t138 _ A18.out).mono ?_); rintro e w' ⟨rfl, ⟨nd, rfl⟩⟩; refine ⟨_, rfl, ?_⟩))
                  go_ret2
                  exact ⟨by first | rfl | (simp [errW_none, errW_some] <;> rfl) | (exfalso; simp_all; done) | (simp [*, errW_none, errW_some] <;> rfl), by repeat (first | (with_reducible first | exact HB.out | apply below_alloc | apply pw_below_drewN | apply below_drew1) | exact HB.out)⟩
              · replace c16 := Bool.eq_false_iff.mpr c16
                subst c16
                have H1 : ((fix_signed.f kj13 t135 x19_10).bind fun bt139 => (some (bt139.1, bt139.2))) = some (r1, r2) := by rw [if_neg (show ¬ (false = true) by decide)] at H; exact H
                clear H
                have H := H1
                clear H1
                replace H := Option.bind_eq_some_iff.mp H
                obtain ⟨⟨t139, t140⟩, A190, H⟩ := H
                replace H : (some (t139, t140)) = some (r1, r2) := H
                have A19 := Aside0.mk A190
                clear A190
                simp only [Option.some.injEq, Prod.mk.injEq] at H
                obtain ⟨rfl, rfl⟩ := H
                go_wp2_with (first | ((with_reducible refine gate_callee (f := 40) rfl ?_); refine goesL_ (some 72) rfl rfl Tryd.func40 (by kernel_rfl) rfl #[.int .u64 t135, .bool x19_10] rfl (by (try simp only [List.map_toArray, List.map_cons, List.map_nil]); first | done | rfl | (simp only [List.length_drop, List.length_take]; rfl)) ?_; (with_reducible refine (fix_signed.calls kj13 t135 x19_10 t139 t140 _ A19.out).mono ?_); rintro e w' ⟨rfl, ⟨nd, rfl⟩⟩; refine ⟨_, rfl, ?_⟩))
                go_ret2
                exact ⟨by first | rfl | (simp [errW_none, errW_some] <;> rfl) | (exfalso; simp_all; done) | (simp [*, errW_none, errW_some] <;> rfl), by repeat (first | (with_reducible first | exact HB.out | apply below_alloc | apply pw_below_drewN | apply below_drew1) | exact HB.out)⟩

/-! ### money_over: function 25 -/
def money_over.f (k : Nat) (a0 : Int) (a1 : Int) (a2 : Int) (a3 : Bool) : Option (Int × Option Int) := (fix_Div.f k a0 a1 a2 a3).bind fun bt141 => (if bt141.2 = true then (if bt141.1 > 1000000000000000 then (some (0, some 104)) else (some (bt141.1, none))) else (some (0, some 104)))
theorem money_over.mono : ∀ a0 a1 a2 a3 k, LeO (money_over.f k a0 a1 a2 a3) (money_over.f (k + 1) a0 a1 a2 a3) := by
  intro a0 a1 a2 a3 k
  unfold money_over.f
  repeat' first
      | (with_reducible exact fix_Div.mono _ _ _ _ _)
      | (with_reducible exact LeO.refl _)
      | (with_reducible exact LeO.none _)
      | (with_reducible refine LeO.ite ?_ ?_)
      | (with_reducible refine LeO.bind ?_ (fun _ => ?_))
      | exact fix_Div.mono _ _ _ _ _
      | exact LeO.none _
      | refine LeO.ite ?_ ?_
      | refine LeO.bind ?_ (fun _ => ?_)
set_option maxHeartbeats 8000000 in
set_option maxRecDepth 100000 in
theorem money_over.calls [Inhabited (Int → Addr)] (k : Nat) (a0 : Int) (a1 : Int) (a2 : Int) (a3 : Bool) (r1 : Int) (r2 : Option Int) (w : World) (hG : GlobOK w) (h : money_over.f k a0 a1 a2 a3 = some (r1, r2)) :
    Calls Tryd.prog 25 #[.int .i64 a0, .int .i64 a1, .int .i64 a2, .bool a3] w fun e w' => e = .returned (.tuple #[.int .i64 r1, errW r2]) ∧ Below w.heap.size w w' := by
  have HG := Aside0.mk hG
  clear hG
  have HB := Aside0.mk (Below.refl w.heap.size w)
  have H : ((fix_Div.f k a0 a1 a2 a3).bind fun bt141 => (if bt141.2 = true then (if bt141.1 > 1000000000000000 then (some (0, some 104)) else (some (bt141.1, none))) else (some (0, some 104)))) = some (r1, r2) := h
  clear h
  replace H := Option.bind_eq_some_iff.mp H
  obtain ⟨⟨t141, t142⟩, A50, H⟩ := H
  replace H : (if t142 = true then (if t141 > 1000000000000000 then (some (0, some 104)) else (some (t141, none))) else (some (0, some 104))) = some (r1, r2) := H
  have A5 := Aside0.mk A50
  clear A50
  by_cases c6 : t142 = true
  · subst c6
    have H1 : (if t141 > 1000000000000000 then (some (0, some 104)) else (some (t141, none))) = some (r1, r2) := by rw [if_pos rfl] at H; exact H
    clear H
    have H := H1
    clear H1
    by_cases c7 : t141 > 1000000000000000
    · rw [if_pos c7] at H
      have c7b0 : decide (1000000000000000 < t141) = true := decide_eq_true c7
      clear c7
      simp only [Option.some.injEq, Prod.mk.injEq] at H
      obtain ⟨rfl, rfl⟩ := H
      go_enter Tryd.func25, Tryd.ntmps25
      go_wp2_with (first | (go_at_call 30; (with_reducible refine (fix_Div.calls k a0 a1 a2 a3 t141 true _ ?side1 A5.out).mono ?_); (case side1 => exact GlobOK.below HG.out (by repeat (first | (with_reducible first | exact HB.out | apply below_alloc | apply pw_below_drewN | apply below_drew1) | exact HB.out))); rintro e w8 ⟨rfl, hb⟩; have n0_ := Aside0.mk (below_step (by repeat (first | (with_reducible first | exact HB.out | apply below_alloc | apply pw_below_drewN | apply below_drew1) | exact HB.out)) hb); clear HB; have HB := n0_; clear n0_; (try clear hb); (try clear hb2); (try clear hk); (try clear hi); have hwg9 := GlobOK.at HG.out 104 2 (by simp [globTab]); have hxg9_0 := hwg9; replace hxg9_0 := (HB.out.cell (World.block_lt_of_cell? w _ hxg9_0)).trans hxg9_0; clear hwg9))
      repeat (go_quiet (first | (go_at_call 30; (try simp only [i64_w, i32_w]); (with_reducible refine (fix_Div.calls k a0 a1 a2 a3 t141 true _ ?side1 A5.out).mono ?_); (case side1 => exact GlobOK.below HG.out (by repeat (first | (with_reducible first | exact HB.out | apply below_alloc | apply pw_below_drewN | apply below_drew1) | exact HB.out))); rintro e w8 ⟨rfl, hb⟩; have n0_ := Aside0.mk (below_step (by repeat (first | (with_reducible first | exact HB.out | apply below_alloc | apply pw_below_drewN | apply below_drew1) | exact HB.out)) hb); clear HB; have HB := n0_; clear n0_; (try clear hb); (try clear hb2); (try clear hk); (try clear hi); have hwg9 := GlobOK.at HG.out 104 2 (by simp [globTab]); have hxg9_0 := hwg9; replace hxg9_0 := (HB.out.cell (World.block_lt_of_cell? w _ hxg9_0)).trans hxg9_0; clear hwg9)); try go_wp2_with (first | (go_at_call 30; (try simp only [i64_w, i32_w]); (with_reducible refine (fix_Div.calls k a0 a1 a2 a3 t141 true _ ?side1 A5.out).mono ?_); (case side1 => exact GlobOK.below HG.out (by repeat (first | (with_reducible first | exact HB.out | apply below_alloc | apply pw_below_drewN | apply below_drew1) | exact HB.out))); rintro e w8 ⟨rfl, hb⟩; have n0_ := Aside0.mk (below_step (by repeat (first | (with_reducible first | exact HB.out | apply below_alloc | apply pw_below_drewN | apply below_drew1) | exact HB.out)) hb); clear HB; have HB := n0_; clear n0_; (try clear hb); (try clear hb2); (try clear hk); (try clear hi); have hwg9 := GlobOK.at HG.out 104 2 (by simp [globTab]); have hxg9_0 := hwg9; replace hxg9_0 := (HB.out.cell (World.block_lt_of_cell? w _ hxg9_0)).trans hxg9_0; clear hwg9)))
      go_ret2
      exact ⟨by first | rfl | (simp [errW_none, errW_some] <;> rfl) | (exfalso; simp_all; done) | (simp [*, errW_none, errW_some] <;> rfl), by repeat (first | (with_reducible first | exact HB.out | apply below_alloc | apply pw_below_drewN | apply below_drew1) | exact HB.out)⟩
    · rw [if_neg c7] at H
      have c7b0 : decide (1000000000000000 < t141) = false := decide_eq_false c7
      clear c7
      simp only [Option.some.injEq, Prod.mk.injEq] at H
      obtain ⟨rfl, rfl⟩ := H
      go_enter Tryd.func25, Tryd.ntmps25
      go_wp2_with (first | (go_at_call 30; (with_reducible refine (fix_Div.calls k a0 a1 a2 a3 t141 true _ ?side1 A5.out).mono ?_); (case side1 => exact GlobOK.below HG.out (by repeat (first | (with_reducible first | exact HB.out | apply below_alloc | apply pw_below_drewN | apply below_drew1) | exact HB.out))); rintro e w10 ⟨rfl, hb⟩; have n0_ := Aside0.mk (below_step (by repeat (first | (with_reducible first | exact HB.out | apply below_alloc | apply pw_below_drewN | apply below_drew1) | exact HB.out)) hb); clear HB; have HB := n0_; clear n0_; (try clear hb); (try clear hb2); (try clear hk); (try clear hi)))
      repeat (go_quiet (first | (go_at_call 30; (try simp only [i64_w, i32_w]); (with_reducible refine (fix_Div.calls k a0 a1 a2 a3 t141 true _ ?side1 A5.out).mono ?_); (case side1 => exact GlobOK.below HG.out (by repeat (first | (with_reducible first | exact HB.out | apply below_alloc | apply pw_below_drewN | apply below_drew1) | exact HB.out))); rintro e w10 ⟨rfl, hb⟩; have n0_ := Aside0.mk (below_step (by repeat (first | (with_reducible first | exact HB.out | apply below_alloc | apply pw_below_drewN | apply below_drew1) | exact HB.out)) hb); clear HB; have HB := n0_; clear n0_; (try clear hb); (try clear hb2); (try clear hk); (try clear hi))); try go_wp2_with (first | (go_at_call 30; (try simp only [i64_w, i32_w]); (with_reducible refine (fix_Div.calls k a0 a1 a2 a3 t141 true _ ?side1 A5.out).mono ?_); (case side1 => exact GlobOK.below HG.out (by repeat (first | (with_reducible first | exact HB.out | apply below_alloc | apply pw_below_drewN | apply below_drew1) | exact HB.out))); rintro e w10 ⟨rfl, hb⟩; have n0_ := Aside0.mk (below_step (by repeat (first | (with_reducible first | exact HB.out | apply below_alloc | apply pw_below_drewN | apply below_drew1) | exact HB.out)) hb); clear HB; have HB := n0_; clear n0_; (try clear hb); (try clear hb2); (try clear hk); (try clear hi))))
      go_ret2
      exact ⟨by first | rfl | (simp [errW_none, errW_some] <;> rfl) | (exfalso; simp_all; done) | (simp [*, errW_none, errW_some] <;> rfl), by repeat (first | (with_reducible first | exact HB.out | apply below_alloc | apply pw_below_drewN | apply below_drew1) | exact HB.out)⟩
  · replace c6 := Bool.eq_false_iff.mpr c6
    subst c6
    have H1 : (some (0, some 104)) = some (r1, r2) := by rw [if_neg (show ¬ (false = true) by decide)] at H; exact H
    clear H
    have H := H1
    clear H1
    simp only [Option.some.injEq, Prod.mk.injEq] at H
    obtain ⟨rfl, rfl⟩ := H
    go_enter Tryd.func25, Tryd.ntmps25
    go_wp2_with (first | (go_at_call 30; (with_reducible refine (fix_Div.calls k a0 a1 a2 a3 t141 false _ ?side1 A5.out).mono ?_); (case side1 => exact GlobOK.below HG.out (by repeat (first | (with_reducible first | exact HB.out | apply below_alloc | apply pw_below_drewN | apply below_drew1) | exact HB.out))); rintro e w11 ⟨rfl, hb⟩; have n0_ := Aside0.mk (below_step (by repeat (first | (with_reducible first | exact HB.out | apply below_alloc | apply pw_below_drewN | apply below_drew1) | exact HB.out)) hb); clear HB; have HB := n0_; clear n0_; (try clear hb); (try clear hb2); (try clear hk); (try clear hi); have hwg12 := GlobOK.at HG.out 104 2 (by simp [globTab]); have hxg12_0 := hwg12; replace hxg12_0 := (HB.out.cell (World.block_lt_of_cell? w _ hxg12_0)).trans hxg12_0; clear hwg12))
    repeat (go_quiet (first | (go_at_call 30; (try simp only [i64_w, i32_w]); (with_reducible refine (fix_Div.calls k a0 a1 a2 a3 t141 false _ ?side1 A5.out).mono ?_); (case side1 => exact GlobOK.below HG.out (by repeat (first | (with_reducible first | exact HB.out | apply below_alloc | apply pw_below_drewN | apply below_drew1) | exact HB.out))); rintro e w11 ⟨rfl, hb⟩; have n0_ := Aside0.mk (below_step (by repeat (first | (with_reducible first | exact HB.out | apply below_alloc | apply pw_below_drewN | apply below_drew1) | exact HB.out)) hb); clear HB; have HB := n0_; clear n0_; (try clear hb); (try clear hb2); (try clear hk); (try clear hi); have hwg12 := GlobOK.at HG.out 104 2 (by simp [globTab]); have hxg12_0 := hwg12; replace hxg12_0 := (HB.out.cell (World.block_lt_of_cell? w _ hxg12_0)).trans hxg12_0; clear hwg12)); try go_wp2_with (first | (go_at_call 30; (try simp only [i64_w, i32_w]); (with_reducible refine (fix_Div.calls k a0 a1 a2 a3 t141 false _ ?side1 A5.out).mono ?_); (case side1 => exact GlobOK.below HG.out (by repeat (first | (with_reducible first | exact HB.out | apply below_alloc | apply pw_below_drewN | apply below_drew1) | exact HB.out))); rintro e w11 ⟨rfl, hb⟩; have n0_ := Aside0.mk (below_step (by repeat (first | (with_reducible first | exact HB.out | apply below_alloc | apply pw_below_drewN | apply below_drew1) | exact HB.out)) hb); clear HB; have HB := n0_; clear n0_; (try clear hb); (try clear hb2); (try clear hk); (try clear hi); have hwg12 := GlobOK.at HG.out 104 2 (by simp [globTab]); have hxg12_0 := hwg12; replace hxg12_0 := (HB.out.cell (World.block_lt_of_cell? w _ hxg12_0)).trans hxg12_0; clear hwg12)))
    go_ret2
    exact ⟨by first | rfl | (simp [errW_none, errW_some] <;> rfl) | (exfalso; simp_all; done) | (simp [*, errW_none, errW_some] <;> rfl), by repeat (first | (with_reducible first | exact HB.out | apply below_alloc | apply pw_below_drewN | apply below_drew1) | exact HB.out)⟩

/-! ### money_Base: function 19 -/
def money_Base.f (k : Nat) (a0 : Int) (a1 : Int) : Option (Int × Option Int) := (money_within.f a0 1000000000000000).bind fun t143 => (if t143 = true then ((money_within.f a1 1000000000).bind fun t144 => (if t144 = true then ((money_over.f k a0 a1 1000000 false).bind fun bt145 => (some (bt145.1, bt145.2))) else (some (0, some 103)))) else (some (0, some 103)))
theorem money_Base.mono : ∀ a0 a1 k, LeO (money_Base.f k a0 a1) (money_Base.f (k + 1) a0 a1) := by
  intro a0 a1 k
  unfold money_Base.f
  repeat' first
      | (with_reducible exact money_over.mono _ _ _ _ _)
      | (with_reducible exact LeO.refl _)
      | (with_reducible exact LeO.none _)
      | (with_reducible refine LeO.ite ?_ ?_)
      | (with_reducible refine LeO.bind ?_ (fun _ => ?_))
      | exact money_over.mono _ _ _ _ _
      | exact LeO.none _
      | refine LeO.ite ?_ ?_
      | refine LeO.bind ?_ (fun _ => ?_)
set_option maxHeartbeats 8000000 in
set_option maxRecDepth 100000 in
theorem money_Base.calls [Inhabited (Int → Addr)] (k : Nat) (a0 : Int) (a1 : Int) (r1 : Int) (r2 : Option Int) (w : World) (hG : GlobOK w) (h : money_Base.f k a0 a1 = some (r1, r2)) :
    Calls Tryd.prog 19 #[.int .i64 a0, .int .i64 a1] w fun e w' => e = .returned (.tuple #[.int .i64 r1, errW r2]) ∧ Below w.heap.size w w' := by
  have HG := Aside0.mk hG
  clear hG
  have HB := Aside0.mk (Below.refl w.heap.size w)
  have H : ((money_within.f a0 1000000000000000).bind fun t143 => (if t143 = true then ((money_within.f a1 1000000000).bind fun t144 => (if t144 = true then ((money_over.f k a0 a1 1000000 false).bind fun bt145 => (some (bt145.1, bt145.2))) else (some (0, some 103)))) else (some (0, some 103)))) = some (r1, r2) := h
  clear h
  replace H := Option.bind_eq_some_iff.mp H
  obtain ⟨t143, A30, H⟩ := H
  replace H : (if t143 = true then ((money_within.f a1 1000000000).bind fun t144 => (if t144 = true then ((money_over.f k a0 a1 1000000 false).bind fun bt145 => (some (bt145.1, bt145.2))) else (some (0, some 103)))) else (some (0, some 103))) = some (r1, r2) := H
  have A3 := Aside0.mk A30
  clear A30
  by_cases c4 : t143 = true
  · subst c4
    have H1 : ((money_within.f a1 1000000000).bind fun t144 => (if t144 = true then ((money_over.f k a0 a1 1000000 false).bind fun bt145 => (some (bt145.1, bt145.2))) else (some (0, some 103)))) = some (r1, r2) := by rw [if_pos rfl] at H; exact H
    clear H
    have H := H1
    clear H1
    replace H := Option.bind_eq_some_iff.mp H
    obtain ⟨t144, A50, H⟩ := H
    replace H : (if t144 = true then ((money_over.f k a0 a1 1000000 false).bind fun bt145 => (some (bt145.1, bt145.2))) else (some (0, some 103))) = some (r1, r2) := H
    have A5 := Aside0.mk A50
    clear A50
    by_cases c6 : t144 = true
    · subst c6
      have H1 : ((money_over.f k a0 a1 1000000 false).bind fun bt145 => (some (bt145.1, bt145.2))) = some (r1, r2) := by rw [if_pos rfl] at H; exact H
      clear H
      have H := H1
      clear H1
      replace H := Option.bind_eq_some_iff.mp H
      obtain ⟨⟨t145, t146⟩, A70, H⟩ := H
      replace H : (some (t145, t146)) = some (r1, r2) := H
      have A7 := Aside0.mk A70
      clear A70
      simp only [Option.some.injEq, Prod.mk.injEq] at H
      obtain ⟨rfl, rfl⟩ := H
      go_enter Tryd.func19, Tryd.ntmps19
      go_wp2_with (first | (go_at_call 24; (with_reducible refine (money_within.calls a0 1000000000000000 true _ A3.out).mono ?_); rintro e w' ⟨rfl, ⟨nd, rfl⟩⟩; (try first | exact ⟨rfl, _, World.drewN_drewN _ _ _⟩ | exact ⟨rfl, _, Eq.trans (World.drewN_drewN _ _ _) (congrArg (World.drewN _) (Nat.add_assoc _ _ _))⟩)) | (go_at_call 24; (with_reducible refine (money_within.calls a1 1000000000 true _ A5.out).mono ?_); rintro e w' ⟨rfl, ⟨nd, rfl⟩⟩; (try first | exact ⟨rfl, _, World.drewN_drewN _ _ _⟩ | exact ⟨rfl, _, Eq.trans (World.drewN_drewN _ _ _) (congrArg (World.drewN _) (Nat.add_assoc _ _ _))⟩)) | (go_at_call 25; (with_reducible refine (money_over.calls k a0 a1 1000000 false t145 t146 _ ?side1 A7.out).mono ?_); (case side1 => exact GlobOK.below HG.out (by repeat (first | (with_reducible first | exact HB.out | apply below_alloc | apply pw_below_drewN | apply below_drew1) | exact HB.out))); rintro e w8 ⟨rfl, hb⟩; have n0_ := Aside0.mk (below_step (by repeat (first | (with_reducible first | exact HB.out | apply below_alloc | apply pw_below_drewN | apply below_drew1) | exact HB.out)) hb); clear HB; have HB := n0_; clear n0_; (try clear hb); (try clear hb2); (try clear hk); (try clear hi); (try simp only [errW_none, errW_some])))
      repeat (go_quiet (first | (go_at_call 24; (try simp only [i64_w, i32_w]); (with_reducible refine (money_within.calls a0 1000000000000000 true _ A3.out).mono ?_); rintro e w' ⟨rfl, ⟨nd, rfl⟩⟩; (try first | exact ⟨rfl, _, World.drewN_drewN _ _ _⟩ | exact ⟨rfl, _, Eq.trans (World.drewN_drewN _ _ _) (congrArg (World.drewN _) (Nat.add_assoc _ _ _))⟩)) | (go_at_call 24; (try simp only [i64_w, i32_w]); (with_reducible refine (money_within.calls a1 1000000000 true _ A5.out).mono ?_); rintro e w' ⟨rfl, ⟨nd, rfl⟩⟩; (try first | exact ⟨rfl, _, World.drewN_drewN _ _ _⟩ | exact ⟨rfl, _, Eq.trans (World.drewN_drewN _ _ _) (congrArg (World.drewN _) (Nat.add_assoc _ _ _))⟩)) | (go_at_call 25; (try simp only [i64_w, i32_w]); (with_reducible refine (money_over.calls k a0 a1 1000000 false t145 t146 _ ?side1 A7.out).mono ?_); (case side1 => exact GlobOK.below HG.out (by repeat (first | (with_reducible first | exact HB.out | apply below_alloc | apply pw_below_drewN | apply below_drew1) | exact HB.out))); rintro e w8 ⟨rfl, hb⟩; have n0_ := Aside0.mk (below_step (by repeat (first | (with_reducible first | exact HB.out | apply below_alloc | apply pw_below_drewN | apply below_drew1) | exact HB.out)) hb); clear HB; have HB := n0_; clear n0_; (try clear hb); (try clear hb2); (try clear hk); (try clear hi); (try simp only [errW_none, errW_some]))); try go_wp2_with (first | (go_at_call 24; (try simp only [i64_w, i32_w]); (with_reducible refine (money_within.calls a0 1000000000000000 true _ A3.out).mono ?_); rintro e w' ⟨rfl, ⟨nd, rfl⟩⟩; (try first | exact ⟨rfl, _, World.drewN_drewN _ _ _⟩ | exact ⟨rfl, _, Eq.trans (World.drewN_drewN _ _ _) (congrArg (World.drewN _) (Nat.add_assoc _ _ _))⟩)) | (go_at_call 24; (try simp only [i64_w, i32_w]); (with_reducible refine (money_within.calls a1 1000000000 true _ A5.out).mono ?_); rintro e w' ⟨rfl, ⟨nd, rfl⟩⟩; (try first | exact ⟨rfl, _, World.drewN_drewN _ _ _⟩ | exact ⟨rfl, _, Eq.trans (World.drewN_drewN _ _ _) (congrArg (World.drewN _) (Nat.add_assoc _ _ _))⟩)) | (go_at_call 25; (try simp only [i64_w, i32_w]); (with_reducible refine (money_over.calls k a0 a1 1000000 false t145 t146 _ ?side1 A7.out).mono ?_); (case side1 => exact GlobOK.below HG.out (by repeat (first | (with_reducible first | exact HB.out | apply below_alloc | apply pw_below_drewN | apply below_drew1) | exact HB.out))); rintro e w8 ⟨rfl, hb⟩; have n0_ := Aside0.mk (below_step (by repeat (first | (with_reducible first | exact HB.out | apply below_alloc | apply pw_below_drewN | apply below_drew1) | exact HB.out)) hb); clear HB; have HB := n0_; clear n0_; (try clear hb); (try clear hb2); (try clear hk); (try clear hi); (try simp only [errW_none, errW_some]))))
      go_ret2
      exact ⟨by first | rfl | (simp [errW_none, errW_some] <;> rfl) | (exfalso; simp_all; done) | (simp [*, errW_none, errW_some] <;> rfl), by repeat (first | (with_reducible first | exact HB.out | apply below_alloc | apply pw_below_drewN | apply below_drew1) | exact HB.out)⟩
    · replace c6 := Bool.eq_false_iff.mpr c6
      subst c6
      have H1 : (some (0, some 103)) = some (r1, r2) := by rw [if_neg (show ¬ (false = true) by decide)] at H; exact H
      clear H
      have H := H1
      clear H1
      simp only [Option.some.injEq, Prod.mk.injEq] at H
      obtain ⟨rfl, rfl⟩ := H
      go_enter Tryd.func19, Tryd.ntmps19
      go_wp2_with (first | (go_at_call 24; (with_reducible refine (money_within.calls a0 1000000000000000 true _ A3.out).mono ?_); rintro e w' ⟨rfl, ⟨nd, rfl⟩⟩; (try first | exact ⟨rfl, _, World.drewN_drewN _ _ _⟩ | exact ⟨rfl, _, Eq.trans (World.drewN_drewN _ _ _) (congrArg (World.drewN _) (Nat.add_assoc _ _ _))⟩)) | (go_at_call 24; (with_reducible refine (money_within.calls a1 1000000000 false _ A5.out).mono ?_); rintro e w' ⟨rfl, ⟨nd, rfl⟩⟩; (try first | exact ⟨rfl, _, World.drewN_drewN _ _ _⟩ | exact ⟨rfl, _, Eq.trans (World.drewN_drewN _ _ _) (congrArg (World.drewN _) (Nat.add_assoc _ _ _))⟩); have hwg9 := GlobOK.at HG.out 103 0 (by simp [globTab]); have hxg9_0 := hwg9; clear hwg9))
      repeat (go_quiet (first | (go_at_call 24; (try simp only [i64_w, i32_w]); (with_reducible refine (money_within.calls a0 1000000000000000 true _ A3.out).mono ?_); rintro e w' ⟨rfl, ⟨nd, rfl⟩⟩; (try first | exact ⟨rfl, _, World.drewN_drewN _ _ _⟩ | exact ⟨rfl, _, Eq.trans (World.drewN_drewN _ _ _) (congrArg (World.drewN _) (Nat.add_assoc _ _ _))⟩)) | (go_at_call 24; (try simp only [i64_w, i32_w]); (with_reducible refine (money_within.calls a1 1000000000 false _ A5.out).mono ?_); rintro e w' ⟨rfl, ⟨nd, rfl⟩⟩; (try first | exact ⟨rfl, _, World.drewN_drewN _ _ _⟩ | exact ⟨rfl, _, Eq.trans (World.drewN_drewN _ _ _) (congrArg (World.drewN _) (Nat.add_assoc _ _ _))⟩); have hwg9 := GlobOK.at HG.out 103 0 (by simp [globTab]); have hxg9_0 := hwg9; clear hwg9)); try go_wp2_with (first | (go_at_call 24; (try simp only [i64_w, i32_w]); (with_reducible refine (money_within.calls a0 1000000000000000 true _ A3.out).mono ?_); rintro e w' ⟨rfl, ⟨nd, rfl⟩⟩; (try first | exact ⟨rfl, _, World.drewN_drewN _ _ _⟩ | exact ⟨rfl, _, Eq.trans (World.drewN_drewN _ _ _) (congrArg (World.drewN _) (Nat.add_assoc _ _ _))⟩)) | (go_at_call 24; (try simp only [i64_w, i32_w]); (with_reducible refine (money_within.calls a1 1000000000 false _ A5.out).mono ?_); rintro e w' ⟨rfl, ⟨nd, rfl⟩⟩; (try first | exact ⟨rfl, _, World.drewN_drewN _ _ _⟩ | exact ⟨rfl, _, Eq.trans (World.drewN_drewN _ _ _) (congrArg (World.drewN _) (Nat.add_assoc _ _ _))⟩); have hwg9 := GlobOK.at HG.out 103 0 (by simp [globTab]); have hxg9_0 := hwg9; clear hwg9)))
      go_ret2
      exact ⟨by first | rfl | (simp [errW_none, errW_some] <;> rfl) | (exfalso; simp_all; done) | (simp [*, errW_none, errW_some] <;> rfl), by repeat (first | (with_reducible first | exact HB.out | apply below_alloc | apply pw_below_drewN | apply below_drew1) | exact HB.out)⟩
  · replace c4 := Bool.eq_false_iff.mpr c4
    subst c4
    have H1 : (some (0, some 103)) = some (r1, r2) := by rw [if_neg (show ¬ (false = true) by decide)] at H; exact H
    clear H
    have H := H1
    clear H1
    simp only [Option.some.injEq, Prod.mk.injEq] at H
    obtain ⟨rfl, rfl⟩ := H
    go_enter Tryd.func19, Tryd.ntmps19
    go_wp2_with (first | (go_at_call 24; (with_reducible refine (money_within.calls a0 1000000000000000 false _ A3.out).mono ?_); rintro e w' ⟨rfl, ⟨nd, rfl⟩⟩; (try first | exact ⟨rfl, _, World.drewN_drewN _ _ _⟩ | exact ⟨rfl, _, Eq.trans (World.drewN_drewN _ _ _) (congrArg (World.drewN _) (Nat.add_assoc _ _ _))⟩); have hwg10 := GlobOK.at HG.out 103 0 (by simp [globTab]); have hxg10_0 := hwg10; clear hwg10))
    repeat (go_quiet (first | (go_at_call 24; (try simp only [i64_w, i32_w]); (with_reducible refine (money_within.calls a0 1000000000000000 false _ A3.out).mono ?_); rintro e w' ⟨rfl, ⟨nd, rfl⟩⟩; (try first | exact ⟨rfl, _, World.drewN_drewN _ _ _⟩ | exact ⟨rfl, _, Eq.trans (World.drewN_drewN _ _ _) (congrArg (World.drewN _) (Nat.add_assoc _ _ _))⟩); have hwg10 := GlobOK.at HG.out 103 0 (by simp [globTab]); have hxg10_0 := hwg10; clear hwg10)); try go_wp2_with (first | (go_at_call 24; (try simp only [i64_w, i32_w]); (with_reducible refine (money_within.calls a0 1000000000000000 false _ A3.out).mono ?_); rintro e w' ⟨rfl, ⟨nd, rfl⟩⟩; (try first | exact ⟨rfl, _, World.drewN_drewN _ _ _⟩ | exact ⟨rfl, _, Eq.trans (World.drewN_drewN _ _ _) (congrArg (World.drewN _) (Nat.add_assoc _ _ _))⟩); have hwg10 := GlobOK.at HG.out 103 0 (by simp [globTab]); have hxg10_0 := hwg10; clear hwg10)))
    go_ret2
    exact ⟨by first | rfl | (simp [errW_none, errW_some] <;> rfl) | (exfalso; simp_all; done) | (simp [*, errW_none, errW_some] <;> rfl), by repeat (first | (with_reducible first | exact HB.out | apply below_alloc | apply pw_below_drewN | apply below_drew1) | exact HB.out)⟩

end Go.Proofs.YtambndaimehpmaaDoor.EFxBase
