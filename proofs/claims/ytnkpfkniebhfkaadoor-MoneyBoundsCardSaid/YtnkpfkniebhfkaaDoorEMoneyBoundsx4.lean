/- The functions that the law comes to, as plain functions, and for each a proof that the Go code comes to just these answers. Written by a program of this claim. Conditions: each theorem bears its own. -/
import Derived.Test.YtnkpfkniebhfkaaDoorEMoneyBoundsx0
import Derived.Test.YtnkpfkniebhfkaaDoorEMoneyBoundsx3
namespace Go.Proofs.YtnkpfkniebhfkaaDoor.EMoneyBounds
open Go.RowKit Go.Proofs.YtnkpfkniebhfkaaDoorW.PrintWords Go.Proofs.YtnkpfkniebhfkaaDoorW.PrintLast Go.Proofs.YtnkpfkniebhfkaaDoorW.PrintMore Go.Proofs.YtnkpfkniebhfkaaDoorW.PrintOpen
attribute [local go_sem] max2_int min2_int max_two min_two max_three min_three max_four min_four   -- for this text's walks alone
set_option linter.unusedVariables false
set_option linter.unusedSimpArgs false

/-! ### pledgesee_Is: function 10 -/
def pledgesee_Is.f (a0 : Option Int) (a1 : Int) : Option (Bool) := (pledgeref_Bare.f a1).bind fun bt146 => ((pledgesee_Same.f a0 bt146.1 bt146.2.1 bt146.2.2).bind fun t149 => (some t149))
set_option maxHeartbeats 8000000 in
set_option maxRecDepth 100000 in
theorem pledgesee_Is.calls [Inhabited (Int → Addr)] (a0 : Option Int) (a1 : Int) (r : Bool) (w : World) (hG : GlobOK w) (h : pledgesee_Is.f a0 a1 = some r) :
    Calls Tryd.prog 10 #[errW a0, .int .i64 a1] w fun e w' => e = .returned (.bool r) ∧ Below w.heap.size w w' := by
  have HG := Aside0.mk hG
  clear hG
  have HB := Aside0.mk (Below.refl w.heap.size w)
  have H : ((pledgeref_Bare.f a1).bind fun bt146 => ((pledgesee_Same.f a0 bt146.1 bt146.2.1 bt146.2.2).bind fun t149 => (some t149))) = some r := h
  clear h
  replace H := Option.bind_eq_some_iff.mp H
  obtain ⟨⟨t146, t147, t148⟩, A30, H⟩ := H
  replace H : ((pledgesee_Same.f a0 t146 t147 t148).bind fun t149 => (some t149)) = some r := H
  have A3 := Aside0.mk A30
  clear A30
  replace H := Option.bind_eq_some_iff.mp H
  obtain ⟨t149, A40, H⟩ := H
  replace H : (some t149) = some r := H
  have A4 := Aside0.mk A40
  clear A40
  obtain rfl := Option.some.inj H
  go_enter Tryd.func10, Tryd.ntmps10
  go_wp2_with (first | ((with_reducible refine gate_callee (f := 27) rfl ?_); refine goesL_ (some 7) rfl rfl Tryd.func27 (by kernel_rfl) rfl #[.int .i64 a1] rfl (by (try simp only [List.map_toArray, List.map_cons, List.map_nil]); first | done | rfl | (simp only [List.length_drop, List.length_take]; rfl)) ?_; (with_reducible refine (pledgeref_Bare.calls a1 t146 t147 t148 _ A3.out).mono ?_); rintro e w5 ⟨rfl, hb⟩; refine ⟨_, rfl, ?_⟩; have n0_ := Aside0.mk (below_step (by repeat (first | (with_reducible first | exact HB.out | apply below_alloc | apply pw_below_drewN | apply below_drew1) | exact HB.out)) hb); clear HB; have HB := n0_; clear n0_; (try clear hb); (try clear hb2); (try clear hk); (try clear hi); have CA4 := fun W hG_ => pledgesee_Same.calls a0 t146 t147 t148 t149 W hG_ A4.out; try simp only [errW_none, errW_some] at CA4) | (go_at_call 26; (with_reducible refine (CA4 _ ?side1).mono ?_); (case side1 => exact GlobOK.below HG.out (by repeat (first | (with_reducible first | exact HB.out | apply below_alloc | apply pw_below_drewN | apply below_drew1) | exact HB.out))); rintro e w6 ⟨rfl, hb⟩; have n0_ := Aside0.mk (below_step (by repeat (first | (with_reducible first | exact HB.out | apply below_alloc | apply pw_below_drewN | apply below_drew1) | exact HB.out)) hb); clear HB; have HB := n0_; clear n0_; (try clear hb); (try clear hb2); (try clear hk); (try clear hi)))
  go_ret
  exact ⟨by first | rfl | (simp [errW_none, errW_some] <;> rfl) | (simp [*, errW_none, errW_some] <;> rfl), by repeat (first | (with_reducible first | exact HB.out | apply below_alloc | apply pw_below_drewN | apply below_drew1) | exact HB.out)⟩

/-! ### pledgelaw3_MoneyBounds: function 3 -/
mutual
def pledgelaw3_MoneyBounds.j0 : Nat → Int → Int → Bool → Int → Option Int → Bool → Option (Bool)
  | 0, _, _, _, _, _, _ => none
  | k + 1, x0, x1, x5, x6, x7, x8 => if x8 = true then (if x1 ≥ 1000 then (if x1 = 0 then (none) else (pledgelaw3_MoneyBounds.j1 k x0 x1 x5 x6 x7 (decide (x0 > (wrap64 ((wrap64 ((wrap64 (Int.tdiv (1000000000000001 : Int) x1)) * 10000)) + 10000)))))) else (pledgelaw3_MoneyBounds.j1 k x0 x1 x5 x6 x7 false)) else (if x5 = true then (if x6 = 0 then ((pledgesee_Is.f x7 103).bind fun t153 => (some t153)) else (some false)) else (some false))
def pledgelaw3_MoneyBounds.j1 : Nat → Int → Int → Bool → Int → Option Int → Bool → Option (Bool)
  | 0, _, _, _, _, _, _ => none
  | k + 1, x0, x1, x5, x6, x7, x9 => if x9 = true then (if x5 = true then (if x6 = 0 then ((pledgesee_Is.f x7 104).bind fun t154 => (some t154)) else (some false)) else (some false)) else (if x7.isNone = true then (if x5 = true then (if x6 ≤ 1000000000000000 then (if x1 = 10000 then (if x6 = x0 then (if x1 = 0 then (some (x6 == 0)) else (some true)) else (some false)) else (if x1 = 0 then (some (x6 == 0)) else (some true))) else (some false)) else (some false)) else (if x5 = true then (if x6 = 0 then ((pledgesee_Is.f (some (x7.getD 0)) 104).bind fun t156 => (if t156 = true then (some (decide (x1 > 1000))) else (some false))) else (some false)) else (some false)))
end
def pledgelaw3_MoneyBounds.f (k : Nat) (a0 : Int) (a1 : Int) : Option (Bool) := (pledgelaw3_first.f k).bind fun t150 => (if t150 = true then ((money_Worth.f k a0 a1).bind fun bt151 => (if a0 ≥ 0 then (if a0 ≤ 1000000000000 then (if a1 ≥ 0 then (pledgelaw3_MoneyBounds.j0 k a0 a1 t150 bt151.1 bt151.2 (decide (a1 ≤ 1000000000))) else (pledgelaw3_MoneyBounds.j0 k a0 a1 t150 bt151.1 bt151.2 false)) else (pledgelaw3_MoneyBounds.j0 k a0 a1 t150 bt151.1 bt151.2 false)) else (pledgelaw3_MoneyBounds.j0 k a0 a1 t150 bt151.1 bt151.2 false))) else (some false))
theorem pledgelaw3_MoneyBounds.mono_l : ∀ k, (∀ y0 y1 y2 y3 y4 y5, LeO (pledgelaw3_MoneyBounds.j0 k y0 y1 y2 y3 y4 y5) (pledgelaw3_MoneyBounds.j0 (k + 1) y0 y1 y2 y3 y4 y5)) ∧ (∀ y0 y1 y2 y3 y4 y5, LeO (pledgelaw3_MoneyBounds.j1 k y0 y1 y2 y3 y4 y5) (pledgelaw3_MoneyBounds.j1 (k + 1) y0 y1 y2 y3 y4 y5))
  | 0 => ⟨fun _ _ _ _ _ _ r h => by simp [pledgelaw3_MoneyBounds.j0] at h, fun _ _ _ _ _ _ r h => by simp [pledgelaw3_MoneyBounds.j1] at h⟩
  | k + 1 => by
    obtain ⟨ih0, ih1⟩ := pledgelaw3_MoneyBounds.mono_l k
    refine ⟨?_, ?_⟩
    · intro y0 y1 y2 y3 y4 y5
      unfold pledgelaw3_MoneyBounds.j0
      repeat' first
      | (with_reducible exact ih0 _ _ _ _ _ _)
      | (with_reducible exact ih1 _ _ _ _ _ _)
      | (with_reducible exact money_Worth.mono _ _ _)
      | (with_reducible exact pledgelaw3_first.mono _)
      | (with_reducible exact LeO.refl _)
      | (with_reducible exact LeO.none _)
      | (with_reducible refine LeO.ite ?_ ?_)
      | (with_reducible refine LeO.bind ?_ (fun _ => ?_))
      | exact ih0 _ _ _ _ _ _
      | exact ih1 _ _ _ _ _ _
      | exact money_Worth.mono _ _ _
      | exact pledgelaw3_first.mono _
      | exact LeO.none _
      | refine LeO.ite ?_ ?_
      | refine LeO.bind ?_ (fun _ => ?_)
    · intro y0 y1 y2 y3 y4 y5
      unfold pledgelaw3_MoneyBounds.j1
      repeat' first
      | (with_reducible exact ih0 _ _ _ _ _ _)
      | (with_reducible exact ih1 _ _ _ _ _ _)
      | (with_reducible exact money_Worth.mono _ _ _)
      | (with_reducible exact pledgelaw3_first.mono _)
      | (with_reducible exact LeO.refl _)
      | (with_reducible exact LeO.none _)
      | (with_reducible refine LeO.ite ?_ ?_)
      | (with_reducible refine LeO.bind ?_ (fun _ => ?_))
      | exact ih0 _ _ _ _ _ _
      | exact ih1 _ _ _ _ _ _
      | exact money_Worth.mono _ _ _
      | exact pledgelaw3_first.mono _
      | exact LeO.none _
      | refine LeO.ite ?_ ?_
      | refine LeO.bind ?_ (fun _ => ?_)
theorem pledgelaw3_MoneyBounds.mono : ∀ a0 a1 k, LeO (pledgelaw3_MoneyBounds.f k a0 a1) (pledgelaw3_MoneyBounds.f (k + 1) a0 a1) := by
  intro a0 a1 k
  obtain ⟨ih0, ih1⟩ := pledgelaw3_MoneyBounds.mono_l k
  unfold pledgelaw3_MoneyBounds.f
  repeat' first
      | (with_reducible exact ih0 _ _ _ _ _ _)
      | (with_reducible exact ih1 _ _ _ _ _ _)
      | (with_reducible exact money_Worth.mono _ _ _)
      | (with_reducible exact pledgelaw3_first.mono _)
      | (with_reducible exact LeO.refl _)
      | (with_reducible exact LeO.none _)
      | (with_reducible refine LeO.ite ?_ ?_)
      | (with_reducible refine LeO.bind ?_ (fun _ => ?_))
      | exact ih0 _ _ _ _ _ _
      | exact ih1 _ _ _ _ _ _
      | exact money_Worth.mono _ _ _
      | exact pledgelaw3_first.mono _
      | exact LeO.none _
      | refine LeO.ite ?_ ?_
      | refine LeO.bind ?_ (fun _ => ?_)
set_option maxHeartbeats 8000000 in
set_option maxRecDepth 100000 in
theorem pledgelaw3_MoneyBounds.calls [Inhabited (Int → Addr)] (k : Nat) (a0 : Int) (a1 : Int) (r : Bool) (w : World) (hG : GlobOK w) (h : pledgelaw3_MoneyBounds.f k a0 a1 = some r) :
    Calls Tryd.prog 3 #[.int .i64 a0, .int .i64 a1] w fun e w' => e = .returned (.bool r) ∧ Below w.heap.size w w' := by
  have hu24 := Tryd.underlying24
  have hu81 := Tryd.underlying81
  have HG := Aside0.mk hG
  clear hG
  have HB := Aside0.mk (Below.refl w.heap.size w)
  have H : ((pledgelaw3_first.f k).bind fun t150 => (if t150 = true then ((money_Worth.f k a0 a1).bind fun bt151 => (if a0 ≥ 0 then (if a0 ≤ 1000000000000 then (if a1 ≥ 0 then (pledgelaw3_MoneyBounds.j0 k a0 a1 t150 bt151.1 bt151.2 (decide (a1 ≤ 1000000000))) else (pledgelaw3_MoneyBounds.j0 k a0 a1 t150 bt151.1 bt151.2 false)) else (pledgelaw3_MoneyBounds.j0 k a0 a1 t150 bt151.1 bt151.2 false)) else (pledgelaw3_MoneyBounds.j0 k a0 a1 t150 bt151.1 bt151.2 false))) else (some false))) = some r := h
  clear h
  replace H := Option.bind_eq_some_iff.mp H
  obtain ⟨t150, A30, H⟩ := H
  replace H : (if t150 = true then ((money_Worth.f k a0 a1).bind fun bt151 => (if a0 ≥ 0 then (if a0 ≤ 1000000000000 then (if a1 ≥ 0 then (pledgelaw3_MoneyBounds.j0 k a0 a1 t150 bt151.1 bt151.2 (decide (a1 ≤ 1000000000))) else (pledgelaw3_MoneyBounds.j0 k a0 a1 t150 bt151.1 bt151.2 false)) else (pledgelaw3_MoneyBounds.j0 k a0 a1 t150 bt151.1 bt151.2 false)) else (pledgelaw3_MoneyBounds.j0 k a0 a1 t150 bt151.1 bt151.2 false))) else (some false)) = some r := H
  have A3 := Aside0.mk A30
  clear A30
  by_cases c4 : t150 = true
  · subst c4
    have H1 : ((money_Worth.f k a0 a1).bind fun bt151 => (if a0 ≥ 0 then (if a0 ≤ 1000000000000 then (if a1 ≥ 0 then (pledgelaw3_MoneyBounds.j0 k a0 a1 true bt151.1 bt151.2 (decide (a1 ≤ 1000000000))) else (pledgelaw3_MoneyBounds.j0 k a0 a1 true bt151.1 bt151.2 false)) else (pledgelaw3_MoneyBounds.j0 k a0 a1 true bt151.1 bt151.2 false)) else (pledgelaw3_MoneyBounds.j0 k a0 a1 true bt151.1 bt151.2 false))) = some r := by rw [if_pos rfl] at H; exact H
    clear H
    have H := H1
    clear H1
    replace H := Option.bind_eq_some_iff.mp H
    obtain ⟨⟨t151, t152⟩, A50, H⟩ := H
    replace H : (if a0 ≥ 0 then (if a0 ≤ 1000000000000 then (if a1 ≥ 0 then (pledgelaw3_MoneyBounds.j0 k a0 a1 true t151 t152 (decide (a1 ≤ 1000000000))) else (pledgelaw3_MoneyBounds.j0 k a0 a1 true t151 t152 false)) else (pledgelaw3_MoneyBounds.j0 k a0 a1 true t151 t152 false)) else (pledgelaw3_MoneyBounds.j0 k a0 a1 true t151 t152 false)) = some r := H
    have A5 := Aside0.mk A50
    clear A50
    have HC6 := Aside0.mk H
    clear H
    go_enter Tryd.func3, Tryd.ntmps3
    go_upto_region 5 with (first | ((with_reducible refine gate_callee (f := 8) rfl ?_); refine goesL_ (some 10) rfl rfl Tryd.func8 (by kernel_rfl) rfl #[] rfl (by (try simp only [List.map_toArray, List.map_cons, List.map_nil]); first | done | rfl | (simp only [List.length_drop, List.length_take]; rfl)) ?_; (with_reducible refine (pledgelaw3_first.calls k  true _ ?side1 A3.out).mono ?_); (case side1 => exact GlobOK.below HG.out (by repeat (first | (with_reducible first | exact HB.out | apply below_alloc | apply pw_below_drewN | apply below_drew1) | exact HB.out))); rintro e w7 ⟨rfl, hb⟩; refine ⟨_, rfl, ?_⟩; have n0_ := Aside0.mk (below_step (by repeat (first | (with_reducible first | exact HB.out | apply below_alloc | apply pw_below_drewN | apply below_drew1) | exact HB.out)) hb); clear HB; have HB := n0_; clear n0_; (try clear hb); (try clear hb2); (try clear hk); (try clear hi)) | ((with_reducible refine gate_callee (f := 9) rfl ?_); refine goesL_ (some 16) rfl rfl Tryd.func9 (by kernel_rfl) rfl #[.int .i64 a0, .int .i64 a1] rfl (by (try simp only [List.map_toArray, List.map_cons, List.map_nil]); first | done | rfl | (simp only [List.length_drop, List.length_take]; rfl)) ?_; (with_reducible refine (money_Worth.calls k a0 a1 t151 t152 _ ?side1 A5.out).mono ?_); (case side1 => exact GlobOK.below HG.out (by repeat (first | (with_reducible first | exact HB.out | apply below_alloc | apply pw_below_drewN | apply below_drew1) | exact HB.out))); rintro e w8 ⟨rfl, hb⟩; refine ⟨_, rfl, ?_⟩; have n0_ := Aside0.mk (below_step (by repeat (first | (with_reducible first | exact HB.out | apply below_alloc | apply pw_below_drewN | apply below_drew1) | exact HB.out)) hb); clear HB; have HB := n0_; clear n0_; (try clear hb); (try clear hb2); (try clear hk); (try clear hi); (try simp only [errW_none, errW_some])))
    (try simp only [Act.put, List.setIfInBounds_toArray, List.set_cons_zero, List.set_cons_succ])
    go_cut [8] (fun v8 wc => ∃ (kq : Nat) (x8_5 : Bool), v8 = .bool x8_5 ∧ Aside0 (pledgelaw3_MoneyBounds.j0 kq a0 a1 true t151 t152 x8_5 = some r) ∧ Aside0 (kq ≤ k) ∧ Aside0 (Below w.heap.size w wc))
    case first =>
      have H := HC6.out
      clear HC6
      by_cases c9 : a0 ≥ 0
      · rw [if_pos c9] at H
        have c9b0 : decide (0 ≤ a0) = true := decide_eq_true c9
        clear c9
        (first | rw [c9b0] | (simp only [i64_w, i32_w]; rw [c9b0]) | skip)
        by_cases c10 : a0 ≤ 1000000000000
        · rw [if_pos c10] at H
          have c10b0 : decide (a0 ≤ 1000000000000) = true := decide_eq_true c10
          clear c10
          by_cases c11 : a1 ≥ 0
          · rw [if_pos c11] at H
            have c11b0 : decide (0 ≤ a1) = true := decide_eq_true c11
            clear c11
            have H' := Aside0.mk H
            clear H
            go_wp2
            go_meet
            case rel => exact ⟨_, (decide (a1 ≤ 1000000000)), (by first | rfl | (simp; done) | (simp [*]; done)), H', ⟨by first | omega | exact Nat.le_refl _⟩, ⟨by repeat (first | (with_reducible first | exact HB.out | apply below_alloc | apply pw_below_drewN | apply below_drew1) | exact HB.out)⟩⟩
          · rw [if_neg c11] at H
            have c11b0 : decide (0 ≤ a1) = false := decide_eq_false c11
            clear c11
            have H' := Aside0.mk H
            clear H
            go_wp2
            go_meet
            case rel => exact ⟨_, (false), (by first | rfl | (simp; done) | (simp [*]; done)), H', ⟨by first | omega | exact Nat.le_refl _⟩, ⟨by repeat (first | (with_reducible first | exact HB.out | apply below_alloc | apply pw_below_drewN | apply below_drew1) | exact HB.out)⟩⟩
        · rw [if_neg c10] at H
          have c10b0 : decide (a0 ≤ 1000000000000) = false := decide_eq_false c10
          clear c10
          have H' := Aside0.mk H
          clear H
          go_wp2
          go_meet
          case rel => exact ⟨_, (false), (by first | rfl | (simp; done) | (simp [*]; done)), H', ⟨by first | omega | exact Nat.le_refl _⟩, ⟨by repeat (first | (with_reducible first | exact HB.out | apply below_alloc | apply pw_below_drewN | apply below_drew1) | exact HB.out)⟩⟩
      · rw [if_neg c9] at H
        have c9b0 : decide (0 ≤ a0) = false := decide_eq_false c9
        clear c9
        (first | rw [c9b0] | (simp only [i64_w, i32_w]; rw [c9b0]) | skip)
        have H' := Aside0.mk H
        clear H
        go_wp2
        go_meet
        case rel => exact ⟨_, (false), (by first | rfl | (simp; done) | (simp [*]; done)), H', ⟨by first | omega | exact Nat.le_refl _⟩, ⟨by repeat (first | (with_reducible first | exact HB.out | apply below_alloc | apply pw_below_drewN | apply below_drew1) | exact HB.out)⟩⟩
    case rest =>
      clear HC6
      try clear c1
      try clear p2
      try clear c3
      try clear c4
      try clear c8
      try clear c9
      try clear c9b0
      try clear c10
      try clear c10b0
      try clear c11
      try clear c11b0
      obtain ⟨kq, x8_5, rfl, HA, HJ5, HB⟩ := hcut
      cases kq with
      | zero => exact absurd HA.out (by simp [pledgelaw3_MoneyBounds.j0])
      | succ kj5 =>
        have H := HA.out
        clear HA
        simp only [pledgelaw3_MoneyBounds.j0] at H
        by_cases c12 : x8_5 = true
        · subst c12
          have H1 : (if a1 ≥ 1000 then (if a1 = 0 then (none) else (pledgelaw3_MoneyBounds.j1 kj5 a0 a1 true t151 t152 (decide (a0 > (wrap64 ((wrap64 ((wrap64 (Int.tdiv (1000000000000001 : Int) a1)) * 10000)) + 10000)))))) else (pledgelaw3_MoneyBounds.j1 kj5 a0 a1 true t151 t152 false)) = some r := by rw [if_pos rfl] at H; exact H
          clear H
          have H := H1
          clear H1
          have HC13 := Aside0.mk H
          clear H
          go_upto_region 8 with (fail)
          go_cut [9] (fun v9 wc => ∃ (kq : Nat) (x9_12 : Bool), v9 = .bool x9_12 ∧ Aside0 (pledgelaw3_MoneyBounds.j1 kq a0 a1 true t151 t152 x9_12 = some r) ∧ Aside0 (kq ≤ kj5) ∧ Aside0 (Below w.heap.size w wc))
          case first =>
            have H := HC13.out
            clear HC13
            by_cases c14 : a1 ≥ 1000
            · rw [if_pos c14] at H
              have c14b0 : decide (1000 ≤ a1) = true := decide_eq_true c14
              clear c14
              (first | rw [c14b0] | (simp only [i64_w, i32_w]; rw [c14b0]) | skip)
              by_cases c15 : a1 = 0
              · rw [if_pos c15] at H
                exact absurd H (by simp)
              · rw [if_neg c15] at H
                have c15b0 : (a1 == 0) = false := beq_eq_false_iff_ne.mpr c15
                have c15b1 : (a1 != 0) = true := bne_iff_ne.mpr c15
                have H' := Aside0.mk H
                clear H
                go_wp2
                go_meet
                case rel => exact ⟨_, (decide (a0 > (wrap64 ((wrap64 ((wrap64 (Int.tdiv (1000000000000001 : Int) a1)) * 10000)) + 10000)))), (by first | rfl | (simp; done) | (simp [*]; done)), H', ⟨by have := HJ5.out; first | omega | exact Nat.le_refl _⟩, ⟨by repeat (first | (with_reducible first | exact HB.out | apply below_alloc | apply pw_below_drewN | apply below_drew1) | exact HB.out)⟩⟩
            · rw [if_neg c14] at H
              have c14b0 : decide (1000 ≤ a1) = false := decide_eq_false c14
              clear c14
              (first | rw [c14b0] | (simp only [i64_w, i32_w]; rw [c14b0]) | skip)
              have H' := Aside0.mk H
              clear H
              go_wp2
              go_meet
              case rel => exact ⟨_, (false), (by first | rfl | (simp; done) | (simp [*]; done)), H', ⟨by have := HJ5.out; first | omega | exact Nat.le_refl _⟩, ⟨by repeat (first | (with_reducible first | exact HB.out | apply below_alloc | apply pw_below_drewN | apply below_drew1) | exact HB.out)⟩⟩
          case rest =>
            clear HC13
            try clear c1
            try clear p2
            try clear c3
            try clear c4
            try clear p6
            try clear c8
            try clear c9
            try clear c9b0
            try clear c10
            try clear c10b0
            try clear c11
            try clear c11b0
            try clear c12
            try clear c14
            try clear c14b0
            try clear c15
            try clear c15b0
            try clear c15b1
            try clear p2
            obtain ⟨kq, x9_12, rfl, HA, HJ12, HB⟩ := hcut
            cases kq with
            | zero => exact absurd HA.out (by simp [pledgelaw3_MoneyBounds.j1])
            | succ kj12 =>
              have H := HA.out
              clear HA
              simp only [pledgelaw3_MoneyBounds.j1] at H
              by_cases c16 : x9_12 = true
              · subst c16
                have H1 : (if true = true then (if t151 = 0 then ((pledgesee_Is.f t152 104).bind fun t154 => (some t154)) else (some false)) else (some false)) = some r := by rw [if_pos rfl] at H; exact H
                clear H
                have H := H1
                clear H1
                have H1 : (if t151 = 0 then ((pledgesee_Is.f t152 104).bind fun t154 => (some t154)) else (some false)) = some r := by rw [if_pos rfl] at H; exact H
                clear H
                have H := H1
                clear H1
                by_cases c17 : t151 = 0
                · rw [if_pos c17] at H
                  have c17b0 : (t151 == 0) = true := beq_iff_eq.mpr c17
                  have c17b1 : (t151 != 0) = false := bne_eq_false_iff_eq.mpr c17
                  clear c17
                  replace H := Option.bind_eq_some_iff.mp H
                  obtain ⟨t154, A180, H⟩ := H
                  replace H : (some t154) = some r := H
                  have A18 := Aside0.mk A180
                  clear A180
                  obtain rfl := Option.some.inj H
                  have CA18 := fun W hG_ => pledgesee_Is.calls t152 104 t154 W hG_ A18.out
                  try simp only [errW_none, errW_some] at CA18
                  go_wp2_with (first | (go_at_call 10; (with_reducible refine (CA18 _ ?side1).mono ?_); (case side1 => exact GlobOK.below HG.out (by repeat (first | (with_reducible first | exact HB.out | apply below_alloc | apply pw_below_drewN | apply below_drew1) | exact HB.out))); rintro e w19 ⟨rfl, hb⟩; have n0_ := Aside0.mk (below_step (by repeat (first | (with_reducible first | exact HB.out | apply below_alloc | apply pw_below_drewN | apply below_drew1) | exact HB.out)) hb); clear HB; have HB := n0_; clear n0_; (try clear hb); (try clear hb2); (try clear hk); (try clear hi)))
                  go_ret
                  exact ⟨by first | rfl | (simp [errW_none, errW_some] <;> rfl) | (simp [*, errW_none, errW_some] <;> rfl), by repeat (first | (with_reducible first | exact HB.out | apply below_alloc | apply pw_below_drewN | apply below_drew1) | exact HB.out)⟩
                · rw [if_neg c17] at H
                  have c17b0 : (t151 == 0) = false := beq_eq_false_iff_ne.mpr c17
                  have c17b1 : (t151 != 0) = true := bne_iff_ne.mpr c17
                  obtain rfl := Option.some.inj H
                  go_wp2
                  go_ret
                  exact ⟨by first | rfl | (simp [errW_none, errW_some] <;> rfl) | (simp [*, errW_none, errW_some] <;> rfl), by repeat (first | (with_reducible first | exact HB.out | apply below_alloc | apply pw_below_drewN | apply below_drew1) | exact HB.out)⟩
              · replace c16 := Bool.eq_false_iff.mpr c16
                subst c16
                have H1 : (if t152.isNone = true then (if true = true then (if t151 ≤ 1000000000000000 then (if a1 = 10000 then (if t151 = a0 then (if a1 = 0 then (some (t151 == 0)) else (some true)) else (some false)) else (if a1 = 0 then (some (t151 == 0)) else (some true))) else (some false)) else (some false)) else (if true = true then (if t151 = 0 then ((pledgesee_Is.f (some (t152.getD 0)) 104).bind fun t156 => (if t156 = true then (some (decide (a1 > 1000))) else (some false))) else (some false)) else (some false))) = some r := by rw [if_neg (show ¬ (false = true) by decide)] at H; exact H
                clear H
                have H := H1
                clear H1
                rcases t152 with _ | q155
                · have H1 : (if true = true then (if t151 ≤ 1000000000000000 then (if a1 = 10000 then (if t151 = a0 then (if a1 = 0 then (some (t151 == 0)) else (some true)) else (some false)) else (if a1 = 0 then (some (t151 == 0)) else (some true))) else (some false)) else (some false)) = some r := by rw [if_pos (show (none : Option Int).isNone = true by rfl)] at H; exact H
                  clear H
                  have H := H1
                  clear H1
                  try simp only [errW_none, errW_some]
                  have H1 : (if t151 ≤ 1000000000000000 then (if a1 = 10000 then (if t151 = a0 then (if a1 = 0 then (some (t151 == 0)) else (some true)) else (some false)) else (if a1 = 0 then (some (t151 == 0)) else (some true))) else (some false)) = some r := by rw [if_pos rfl] at H; exact H
                  clear H
                  have H := H1
                  clear H1
                  by_cases c20 : t151 ≤ 1000000000000000
                  · rw [if_pos c20] at H
                    have c20b0 : decide (t151 ≤ 1000000000000000) = true := decide_eq_true c20
                    clear c20
                    by_cases c21 : a1 = 10000
                    · rw [if_pos c21] at H
                      have c21b0 : (a1 == 10000) = true := beq_iff_eq.mpr c21
                      have c21b1 : (a1 != 10000) = false := bne_eq_false_iff_eq.mpr c21
                      clear c21
                      by_cases c22 : t151 = a0
                      · rw [if_pos c22] at H
                        have c22b0 : (t151 == a0) = true := beq_iff_eq.mpr c22
                        have c22b1 : (t151 != a0) = false := bne_eq_false_iff_eq.mpr c22
                        clear c22
                        by_cases c23 : a1 = 0
                        · rw [if_pos c23] at H
                          have c23b0 : (a1 == 0) = true := beq_iff_eq.mpr c23
                          have c23b1 : (a1 != 0) = false := bne_eq_false_iff_eq.mpr c23
                          clear c23
                          obtain rfl := Option.some.inj H
                          go_wp2
                          go_ret
                          exact ⟨by first | rfl | (simp [errW_none, errW_some] <;> rfl) | (simp [*, errW_none, errW_some] <;> rfl), by repeat (first | (with_reducible first | exact HB.out | apply below_alloc | apply pw_below_drewN | apply below_drew1) | exact HB.out)⟩
                        · rw [if_neg c23] at H
                          have c23b0 : (a1 == 0) = false := beq_eq_false_iff_ne.mpr c23
                          have c23b1 : (a1 != 0) = true := bne_iff_ne.mpr c23
                          obtain rfl := Option.some.inj H
                          go_wp2
                          go_ret
                          exact ⟨by first | rfl | (simp [errW_none, errW_some] <;> rfl) | (simp [*, errW_none, errW_some] <;> rfl), by repeat (first | (with_reducible first | exact HB.out | apply below_alloc | apply pw_below_drewN | apply below_drew1) | exact HB.out)⟩
                      · rw [if_neg c22] at H
                        have c22b0 : (t151 == a0) = false := beq_eq_false_iff_ne.mpr c22
                        have c22b1 : (t151 != a0) = true := bne_iff_ne.mpr c22
                        obtain rfl := Option.some.inj H
                        go_wp2
                        go_ret
                        exact ⟨by first | rfl | (simp [errW_none, errW_some] <;> rfl) | (simp [*, errW_none, errW_some] <;> rfl), by repeat (first | (with_reducible first | exact HB.out | apply below_alloc | apply pw_below_drewN | apply below_drew1) | exact HB.out)⟩
                    · rw [if_neg c21] at H
                      have c21b0 : (a1 == 10000) = false := beq_eq_false_iff_ne.mpr c21
                      have c21b1 : (a1 != 10000) = true := bne_iff_ne.mpr c21
                      by_cases c24 : a1 = 0
                      · rw [if_pos c24] at H
                        have c24b0 : (a1 == 0) = true := beq_iff_eq.mpr c24
                        have c24b1 : (a1 != 0) = false := bne_eq_false_iff_eq.mpr c24
                        clear c24
                        obtain rfl := Option.some.inj H
                        go_wp2
                        go_ret
                        exact ⟨by first | rfl | (simp [errW_none, errW_some] <;> rfl) | (simp [*, errW_none, errW_some] <;> rfl), by repeat (first | (with_reducible first | exact HB.out | apply below_alloc | apply pw_below_drewN | apply below_drew1) | exact HB.out)⟩
                      · rw [if_neg c24] at H
                        have c24b0 : (a1 == 0) = false := beq_eq_false_iff_ne.mpr c24
                        have c24b1 : (a1 != 0) = true := bne_iff_ne.mpr c24
                        obtain rfl := Option.some.inj H
                        go_wp2
                        go_ret
                        exact ⟨by first | rfl | (simp [errW_none, errW_some] <;> rfl) | (simp [*, errW_none, errW_some] <;> rfl), by repeat (first | (with_reducible first | exact HB.out | apply below_alloc | apply pw_below_drewN | apply below_drew1) | exact HB.out)⟩
                  · rw [if_neg c20] at H
                    have c20b0 : decide (t151 ≤ 1000000000000000) = false := decide_eq_false c20
                    clear c20
                    obtain rfl := Option.some.inj H
                    go_wp2
                    go_ret
                    exact ⟨by first | rfl | (simp [errW_none, errW_some] <;> rfl) | (simp [*, errW_none, errW_some] <;> rfl), by repeat (first | (with_reducible first | exact HB.out | apply below_alloc | apply pw_below_drewN | apply below_drew1) | exact HB.out)⟩
                · have H1 : (if true = true then (if t151 = 0 then ((pledgesee_Is.f (some q155) 104).bind fun t156 => (if t156 = true then (some (decide (a1 > 1000))) else (some false))) else (some false)) else (some false)) = some r := by rw [if_neg (show ¬ (some q155).isNone = true by simp)] at H; exact H
                  clear H
                  have H := H1
                  clear H1
                  try simp only [errW_none, errW_some]
                  have H1 : (if t151 = 0 then ((pledgesee_Is.f (some q155) 104).bind fun t156 => (if t156 = true then (some (decide (a1 > 1000))) else (some false))) else (some false)) = some r := by rw [if_pos rfl] at H; exact H
                  clear H
                  have H := H1
                  clear H1
                  by_cases c25 : t151 = 0
                  · rw [if_pos c25] at H
                    have c25b0 : (t151 == 0) = true := beq_iff_eq.mpr c25
                    have c25b1 : (t151 != 0) = false := bne_eq_false_iff_eq.mpr c25
                    clear c25
                    replace H := Option.bind_eq_some_iff.mp H
                    obtain ⟨t156, A260, H⟩ := H
                    replace H : (if t156 = true then (some (decide (a1 > 1000))) else (some false)) = some r := H
                    have A26 := Aside0.mk A260
                    clear A260
                    by_cases c27 : t156 = true
                    · subst c27
                      have H1 : (some (decide (a1 > 1000))) = some r := by rw [if_pos rfl] at H; exact H
                      clear H
                      have H := H1
                      clear H1
                      obtain rfl := Option.some.inj H
                      have CA26 := fun W hG_ => pledgesee_Is.calls (some q155) 104 true W hG_ A26.out
                      try simp only [errW_none, errW_some] at CA26
                      go_wp2_with (first | (go_at_call 10; (with_reducible refine (CA26 _ ?side1).mono ?_); (case side1 => exact GlobOK.below HG.out (by repeat (first | (with_reducible first | exact HB.out | apply below_alloc | apply pw_below_drewN | apply below_drew1) | exact HB.out))); rintro e w28 ⟨rfl, hb⟩; have n0_ := Aside0.mk (below_step (by repeat (first | (with_reducible first | exact HB.out | apply below_alloc | apply pw_below_drewN | apply below_drew1) | exact HB.out)) hb); clear HB; have HB := n0_; clear n0_; (try clear hb); (try clear hb2); (try clear hk); (try clear hi)))
                      go_ret
                      exact ⟨by first | rfl | (simp [errW_none, errW_some] <;> rfl) | (simp [*, errW_none, errW_some] <;> rfl), by repeat (first | (with_reducible first | exact HB.out | apply below_alloc | apply pw_below_drewN | apply below_drew1) | exact HB.out)⟩
                    · replace c27 := Bool.eq_false_iff.mpr c27
                      subst c27
                      have H1 : (some false) = some r := by rw [if_neg (show ¬ (false = true) by decide)] at H; exact H
                      clear H
                      have H := H1
                      clear H1
                      obtain rfl := Option.some.inj H
                      have CA26 := fun W hG_ => pledgesee_Is.calls (some q155) 104 false W hG_ A26.out
                      try simp only [errW_none, errW_some] at CA26
                      go_wp2_with (first | (go_at_call 10; (with_reducible refine (CA26 _ ?side1).mono ?_); (case side1 => exact GlobOK.below HG.out (by repeat (first | (with_reducible first | exact HB.out | apply below_alloc | apply pw_below_drewN | apply below_drew1) | exact HB.out))); rintro e w29 ⟨rfl, hb⟩; have n0_ := Aside0.mk (below_step (by repeat (first | (with_reducible first | exact HB.out | apply below_alloc | apply pw_below_drewN | apply below_drew1) | exact HB.out)) hb); clear HB; have HB := n0_; clear n0_; (try clear hb); (try clear hb2); (try clear hk); (try clear hi)))
                      go_ret
                      exact ⟨by first | rfl | (simp [errW_none, errW_some] <;> rfl) | (simp [*, errW_none, errW_some] <;> rfl), by repeat (first | (with_reducible first | exact HB.out | apply below_alloc | apply pw_below_drewN | apply below_drew1) | exact HB.out)⟩
                  · rw [if_neg c25] at H
                    have c25b0 : (t151 == 0) = false := beq_eq_false_iff_ne.mpr c25
                    have c25b1 : (t151 != 0) = true := bne_iff_ne.mpr c25
                    obtain rfl := Option.some.inj H
                    go_wp2
                    go_ret
                    exact ⟨by first | rfl | (simp [errW_none, errW_some] <;> rfl) | (simp [*, errW_none, errW_some] <;> rfl), by repeat (first | (with_reducible first | exact HB.out | apply below_alloc | apply pw_below_drewN | apply below_drew1) | exact HB.out)⟩
        · replace c12 := Bool.eq_false_iff.mpr c12
          subst c12
          have H1 : (if true = true then (if t151 = 0 then ((pledgesee_Is.f t152 103).bind fun t153 => (some t153)) else (some false)) else (some false)) = some r := by rw [if_neg (show ¬ (false = true) by decide)] at H; exact H
          clear H
          have H := H1
          clear H1
          have H1 : (if t151 = 0 then ((pledgesee_Is.f t152 103).bind fun t153 => (some t153)) else (some false)) = some r := by rw [if_pos rfl] at H; exact H
          clear H
          have H := H1
          clear H1
          by_cases c30 : t151 = 0
          · rw [if_pos c30] at H
            have c30b0 : (t151 == 0) = true := beq_iff_eq.mpr c30
            have c30b1 : (t151 != 0) = false := bne_eq_false_iff_eq.mpr c30
            clear c30
            replace H := Option.bind_eq_some_iff.mp H
            obtain ⟨t153, A310, H⟩ := H
            replace H : (some t153) = some r := H
            have A31 := Aside0.mk A310
            clear A310
            obtain rfl := Option.some.inj H
            have CA31 := fun W hG_ => pledgesee_Is.calls t152 103 t153 W hG_ A31.out
            try simp only [errW_none, errW_some] at CA31
            go_wp2_with (first | (go_at_call 10; (with_reducible refine (CA31 _ ?side1).mono ?_); (case side1 => exact GlobOK.below HG.out (by repeat (first | (with_reducible first | exact HB.out | apply below_alloc | apply pw_below_drewN | apply below_drew1) | exact HB.out))); rintro e w32 ⟨rfl, hb⟩; have n0_ := Aside0.mk (below_step (by repeat (first | (with_reducible first | exact HB.out | apply below_alloc | apply pw_below_drewN | apply below_drew1) | exact HB.out)) hb); clear HB; have HB := n0_; clear n0_; (try clear hb); (try clear hb2); (try clear hk); (try clear hi)))
            go_ret
            exact ⟨by first | rfl | (simp [errW_none, errW_some] <;> rfl) | (simp [*, errW_none, errW_some] <;> rfl), by repeat (first | (with_reducible first | exact HB.out | apply below_alloc | apply pw_below_drewN | apply below_drew1) | exact HB.out)⟩
          · rw [if_neg c30] at H
            have c30b0 : (t151 == 0) = false := beq_eq_false_iff_ne.mpr c30
            have c30b1 : (t151 != 0) = true := bne_iff_ne.mpr c30
            obtain rfl := Option.some.inj H
            go_wp2
            go_ret
            exact ⟨by first | rfl | (simp [errW_none, errW_some] <;> rfl) | (simp [*, errW_none, errW_some] <;> rfl), by repeat (first | (with_reducible first | exact HB.out | apply below_alloc | apply pw_below_drewN | apply below_drew1) | exact HB.out)⟩
  · replace c4 := Bool.eq_false_iff.mpr c4
    subst c4
    have H1 : (some false) = some r := by rw [if_neg (show ¬ (false = true) by decide)] at H; exact H
    clear H
    have H := H1
    clear H1
    obtain rfl := Option.some.inj H
    go_enter Tryd.func3, Tryd.ntmps3
    go_wp2_with (first | ((with_reducible refine gate_callee (f := 8) rfl ?_); refine goesL_ (some 10) rfl rfl Tryd.func8 (by kernel_rfl) rfl #[] rfl (by (try simp only [List.map_toArray, List.map_cons, List.map_nil]); first | done | rfl | (simp only [List.length_drop, List.length_take]; rfl)) ?_; (with_reducible refine (pledgelaw3_first.calls k  false _ ?side1 A3.out).mono ?_); (case side1 => exact GlobOK.below HG.out (by repeat (first | (with_reducible first | exact HB.out | apply below_alloc | apply pw_below_drewN | apply below_drew1) | exact HB.out))); rintro e w33 ⟨rfl, hb⟩; refine ⟨_, rfl, ?_⟩; have n0_ := Aside0.mk (below_step (by repeat (first | (with_reducible first | exact HB.out | apply below_alloc | apply pw_below_drewN | apply below_drew1) | exact HB.out)) hb); clear HB; have HB := n0_; clear n0_; (try clear hb); (try clear hb2); (try clear hk); (try clear hi)))
    go_ret
    exact ⟨by first | rfl | (simp [errW_none, errW_some] <;> rfl) | (simp [*, errW_none, errW_some] <;> rfl), by repeat (first | (with_reducible first | exact HB.out | apply below_alloc | apply pw_below_drewN | apply below_drew1) | exact HB.out)⟩

/-- The pure statement of pledgelaw3_MoneyBounds: numbers and lists alone. -/
def pledgelaw3_MoneyBounds.Pure : Prop := ∀ (a0 : Int) (a1 : Int), Rng .i64 a0 → Rng .i64 a1 → ∃ k, pledgelaw3_MoneyBounds.f k a0 a1 = some true

end Go.Proofs.YtnkpfkniebhfkaaDoor.EMoneyBounds
