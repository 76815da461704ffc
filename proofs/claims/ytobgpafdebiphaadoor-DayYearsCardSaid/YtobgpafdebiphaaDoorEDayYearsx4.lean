/- The functions that the law comes to, as plain functions, and for each a proof that the Go code comes to just these answers. Written by a program of this claim. Conditions: each theorem bears its own. -/
import Derived.Test.YtobgpafdebiphaaDoorEDayYearsx0
import Derived.Test.YtobgpafdebiphaaDoorEDayYearsx1
import Derived.Test.YtobgpafdebiphaaDoorEDayYearsx2
import Derived.Test.YtobgpafdebiphaaDoorEDayYearsx3
namespace Go.Proofs.YtobgpafdebiphaaDoor.EDayYears
open Go.RowKit Go.Proofs.YtobgpafdebiphaaDoorW.PrintWords Go.Proofs.YtobgpafdebiphaaDoorW.PrintLast Go.Proofs.YtobgpafdebiphaaDoorW.PrintMore Go.Proofs.YtobgpafdebiphaaDoorW.PrintOpen
attribute [local go_sem] max2_int min2_int max_two min_two max_three min_three max_four min_four   -- for this text's walks alone
set_option linter.unusedVariables false
set_option linter.unusedSimpArgs false

/-! ### pledgelaw4_DayYears: function 5 -/
mutual
def pledgelaw4_DayYears.j0 : Nat → Int → Int → Int → Bool → Int → Int → Bool → Option (Bool)
  | 0, _, _, _, _, _, _, _ => none
  | k + 1, x0, x1, x2, x7, x8, x10, x41 => if x41 = true then (some false) else ((day_Leap.f x0).bind fun t153 => (if t153 = true then (pledgelaw4_DayYears.j1 k x0 x1 x2 x7 x8 x10 366) else (pledgelaw4_DayYears.j1 k x0 x1 x2 x7 x8 x10 365)))
def pledgelaw4_DayYears.j1 : Nat → Int → Int → Int → Bool → Int → Int → Int → Option (Bool)
  | 0, _, _, _, _, _, _, _ => none
  | k + 1, x0, x1, x2, x7, x8, x10, x12 => (pledgeworld_Number.f x1 14).bind fun t154 => ((pledgeworld_Number.f x2 33).bind fun t155 => ((day_Of.f k x0 t154 t155).bind fun bt156 => ((some (([0, 31, 28, 31, 30, 31, 30, 31, 31, 30, 31, 30, 31, 0] : List Int) : List Int)).bind fun y158 => (if 0 ≤ t154 then (if t154 < (y158.length : Int) then (if t154 = 2 then (pledgelaw4_DayYears.j2 k t155 x7 x8 x10 x12 bt156.1 bt156.2 (rd y158 t154) (x12 == 366)) else (pledgelaw4_DayYears.j2 k t155 x7 x8 x10 x12 bt156.1 bt156.2 (rd y158 t154) false)) else (none)) else (none)))))
def pledgelaw4_DayYears.j2 : Nat → Int → Bool → Int → Int → Int → Int → Option Int → Int → Bool → Option (Bool)
  | 0, _, _, _, _, _, _, _, _, _ => none
  | k + 1, x2, x7, x8, x10, x12, x13, x14, x15, x65 => if x65 = true then (if x2 ≥ 1 then (if x14.isNone = true then (if (true != (decide (x2 ≤ 29))) = true then (some false) else (if x2 ≤ 29 then (if x13 < x8 then (some false) else (if x13 ≥ x10 then (some false) else (if x7 = true then (some ((wrap64 (x10 - x8)) == x12)) else (some false)))) else ((pledgesee_Is.f none 103).bind fun t163 => (if t163 = true then (if x7 = true then (some ((wrap64 (x10 - x8)) == x12)) else (some false)) else (some false))))) else (if (false != (decide (x2 ≤ 29))) = true then (some false) else (if x2 ≤ 29 then (if x13 < x8 then (some false) else (if x13 ≥ x10 then (some false) else (if x7 = true then (some ((wrap64 (x10 - x8)) == x12)) else (some false)))) else ((pledgesee_Is.f (some (x14.getD 0)) 103).bind fun t164 => (if t164 = true then (if x7 = true then (some ((wrap64 (x10 - x8)) == x12)) else (some false)) else (some false)))))) else (if x14.isNone = true then (some false) else ((pledgesee_Is.f (some (x14.getD 0)) 103).bind fun t166 => (if t166 = true then (if x7 = true then (some ((wrap64 (x10 - x8)) == x12)) else (some false)) else (some false))))) else (if x2 ≥ 1 then (if x14.isNone = true then (if (true != (decide (x2 ≤ x15))) = true then (some false) else (if x2 ≤ x15 then (if x13 < x8 then (some false) else (if x13 ≥ x10 then (some false) else (if x7 = true then (some ((wrap64 (x10 - x8)) == x12)) else (some false)))) else ((pledgesee_Is.f none 103).bind fun t168 => (if t168 = true then (if x7 = true then (some ((wrap64 (x10 - x8)) == x12)) else (some false)) else (some false))))) else (if (false != (decide (x2 ≤ x15))) = true then (some false) else (if x2 ≤ x15 then (if x13 < x8 then (some false) else (if x13 ≥ x10 then (some false) else (if x7 = true then (some ((wrap64 (x10 - x8)) == x12)) else (some false)))) else ((pledgesee_Is.f (some (x14.getD 0)) 103).bind fun t169 => (if t169 = true then (if x7 = true then (some ((wrap64 (x10 - x8)) == x12)) else (some false)) else (some false)))))) else (if x14.isNone = true then (some false) else ((pledgesee_Is.f (some (x14.getD 0)) 103).bind fun t171 => (if t171 = true then (if x7 = true then (some ((wrap64 (x10 - x8)) == x12)) else (some false)) else (some false)))))
end
def pledgelaw4_DayYears.f (k : Nat) (a0 : Int) (a1 : Int) (a2 : Int) : Option (Bool) := (pledgelaw4_first.f k).bind fun t145 => (if t145 = true then ((pledgeworld_Number.f a0 108).bind fun t146 => ((day_Of.f k (wrap64 (2000 + t146)) 1 1).bind fun bt147 => ((day_Of.f k (wrap64 ((wrap64 (2000 + t146)) + 1)) 1 1).bind fun bt149 => (if bt147.2.isNone = true then (if bt149.2.isNone = true then (pledgelaw4_DayYears.j0 k (wrap64 (2000 + t146)) a1 a2 t145 bt147.1 bt149.1 false) else (pledgelaw4_DayYears.j0 k (wrap64 (2000 + t146)) a1 a2 t145 bt147.1 bt149.1 true)) else (pledgelaw4_DayYears.j0 k (wrap64 (2000 + t146)) a1 a2 t145 bt147.1 bt149.1 true))))) else (some false))
theorem pledgelaw4_DayYears.mono_l : ∀ k, (∀ y0 y1 y2 y3 y4 y5 y6, LeO (pledgelaw4_DayYears.j0 k y0 y1 y2 y3 y4 y5 y6) (pledgelaw4_DayYears.j0 (k + 1) y0 y1 y2 y3 y4 y5 y6)) ∧ (∀ y0 y1 y2 y3 y4 y5 y6, LeO (pledgelaw4_DayYears.j1 k y0 y1 y2 y3 y4 y5 y6) (pledgelaw4_DayYears.j1 (k + 1) y0 y1 y2 y3 y4 y5 y6)) ∧ (∀ y0 y1 y2 y3 y4 y5 y6 y7 y8, LeO (pledgelaw4_DayYears.j2 k y0 y1 y2 y3 y4 y5 y6 y7 y8) (pledgelaw4_DayYears.j2 (k + 1) y0 y1 y2 y3 y4 y5 y6 y7 y8))
  | 0 => ⟨fun _ _ _ _ _ _ _ r h => by simp [pledgelaw4_DayYears.j0] at h, fun _ _ _ _ _ _ _ r h => by simp [pledgelaw4_DayYears.j1] at h, fun _ _ _ _ _ _ _ _ _ r h => by simp [pledgelaw4_DayYears.j2] at h⟩
  | k + 1 => by
    obtain ⟨ih0, ih1, ih2⟩ := pledgelaw4_DayYears.mono_l k
    refine ⟨?_, ?_, ?_⟩
    · intro y0 y1 y2 y3 y4 y5 y6
      unfold pledgelaw4_DayYears.j0
      repeat' first
      | (with_reducible exact ih0 _ _ _ _ _ _ _)
      | (with_reducible exact ih1 _ _ _ _ _ _ _)
      | (with_reducible exact ih2 _ _ _ _ _ _ _ _ _)
      | (with_reducible exact day_Of.mono _ _ _ _)
      | (with_reducible exact pledgelaw4_first.mono _)
      | (with_reducible exact LeO.refl _)
      | (with_reducible exact LeO.none _)
      | (with_reducible refine LeO.ite ?_ ?_)
      | (with_reducible refine LeO.bind ?_ (fun _ => ?_))
      | exact ih0 _ _ _ _ _ _ _
      | exact ih1 _ _ _ _ _ _ _
      | exact ih2 _ _ _ _ _ _ _ _ _
      | exact day_Of.mono _ _ _ _
      | exact pledgelaw4_first.mono _
      | exact LeO.none _
      | refine LeO.ite ?_ ?_
      | refine LeO.bind ?_ (fun _ => ?_)
    · intro y0 y1 y2 y3 y4 y5 y6
      unfold pledgelaw4_DayYears.j1
      repeat' first
      | (with_reducible exact ih0 _ _ _ _ _ _ _)
      | (with_reducible exact ih1 _ _ _ _ _ _ _)
      | (with_reducible exact ih2 _ _ _ _ _ _ _ _ _)
      | (with_reducible exact day_Of.mono _ _ _ _)
      | (with_reducible exact pledgelaw4_first.mono _)
      | (with_reducible exact LeO.refl _)
      | (with_reducible exact LeO.none _)
      | (with_reducible refine LeO.ite ?_ ?_)
      | (with_reducible refine LeO.bind ?_ (fun _ => ?_))
      | exact ih0 _ _ _ _ _ _ _
      | exact ih1 _ _ _ _ _ _ _
      | exact ih2 _ _ _ _ _ _ _ _ _
      | exact day_Of.mono _ _ _ _
      | exact pledgelaw4_first.mono _
      | exact LeO.none _
      | refine LeO.ite ?_ ?_
      | refine LeO.bind ?_ (fun _ => ?_)
    · intro y0 y1 y2 y3 y4 y5 y6 y7 y8
      unfold pledgelaw4_DayYears.j2
      repeat' first
      | (with_reducible exact ih0 _ _ _ _ _ _ _)
      | (with_reducible exact ih1 _ _ _ _ _ _ _)
      | (with_reducible exact ih2 _ _ _ _ _ _ _ _ _)
      | (with_reducible exact day_Of.mono _ _ _ _)
      | (with_reducible exact pledgelaw4_first.mono _)
      | (with_reducible exact LeO.refl _)
      | (with_reducible exact LeO.none _)
      | (with_reducible refine LeO.ite ?_ ?_)
      | (with_reducible refine LeO.bind ?_ (fun _ => ?_))
      | exact ih0 _ _ _ _ _ _ _
      | exact ih1 _ _ _ _ _ _ _
      | exact ih2 _ _ _ _ _ _ _ _ _
      | exact day_Of.mono _ _ _ _
      | exact pledgelaw4_first.mono _
      | exact LeO.none _
      | refine LeO.ite ?_ ?_
      | refine LeO.bind ?_ (fun _ => ?_)
theorem pledgelaw4_DayYears.mono : ∀ a0 a1 a2 k, LeO (pledgelaw4_DayYears.f k a0 a1 a2) (pledgelaw4_DayYears.f (k + 1) a0 a1 a2) := by
  intro a0 a1 a2 k
  obtain ⟨ih0, ih1, ih2⟩ := pledgelaw4_DayYears.mono_l k
  unfold pledgelaw4_DayYears.f
  repeat' first
      | (with_reducible exact ih0 _ _ _ _ _ _ _)
      | (with_reducible exact ih1 _ _ _ _ _ _ _)
      | (with_reducible exact ih2 _ _ _ _ _ _ _ _ _)
      | (with_reducible exact day_Of.mono _ _ _ _)
      | (with_reducible exact pledgelaw4_first.mono _)
      | (with_reducible exact LeO.refl _)
      | (with_reducible exact LeO.none _)
      | (with_reducible refine LeO.ite ?_ ?_)
      | (with_reducible refine LeO.bind ?_ (fun _ => ?_))
      | exact ih0 _ _ _ _ _ _ _
      | exact ih1 _ _ _ _ _ _ _
      | exact ih2 _ _ _ _ _ _ _ _ _
      | exact day_Of.mono _ _ _ _
      | exact pledgelaw4_first.mono _
      | exact LeO.none _
      | refine LeO.ite ?_ ?_
      | refine LeO.bind ?_ (fun _ => ?_)
set_option maxHeartbeats 8000000 in
set_option maxRecDepth 100000 in
theorem pledgelaw4_DayYears.calls [Inhabited (Int → Addr)] (k : Nat) (a0 : Int) (a1 : Int) (a2 : Int) (r : Bool) (w : World) (hG : GlobOK w) (h : pledgelaw4_DayYears.f k a0 a1 a2 = some r) :
    Calls Tryd.prog 5 #[.int .i64 a0, .int .i64 a1, .int .i64 a2] w fun e w' => e = .returned (.bool r) ∧ Below w.heap.size w w' := by
  have hu32 := Tryd.underlying32
  have hu28 := Tryd.underlying28
  have hu61 := Tryd.underlying61
  have HG := Aside0.mk hG
  clear hG
  have HB := Aside0.mk (Below.refl w.heap.size w)
  have H : ((pledgelaw4_first.f k).bind fun t145 => (if t145 = true then ((pledgeworld_Number.f a0 108).bind fun t146 => ((day_Of.f k (wrap64 (2000 + t146)) 1 1).bind fun bt147 => ((day_Of.f k (wrap64 ((wrap64 (2000 + t146)) + 1)) 1 1).bind fun bt149 => (if bt147.2.isNone = true then (if bt149.2.isNone = true then (pledgelaw4_DayYears.j0 k (wrap64 (2000 + t146)) a1 a2 t145 bt147.1 bt149.1 false) else (pledgelaw4_DayYears.j0 k (wrap64 (2000 + t146)) a1 a2 t145 bt147.1 bt149.1 true)) else (pledgelaw4_DayYears.j0 k (wrap64 (2000 + t146)) a1 a2 t145 bt147.1 bt149.1 true))))) else (some false))) = some r := h
  clear h
  replace H := Option.bind_eq_some_iff.mp H
  obtain ⟨t145, A40, H⟩ := H
  replace H : (if t145 = true then ((pledgeworld_Number.f a0 108).bind fun t146 => ((day_Of.f k (wrap64 (2000 + t146)) 1 1).bind fun bt147 => ((day_Of.f k (wrap64 ((wrap64 (2000 + t146)) + 1)) 1 1).bind fun bt149 => (if bt147.2.isNone = true then (if bt149.2.isNone = true then (pledgelaw4_DayYears.j0 k (wrap64 (2000 + t146)) a1 a2 t145 bt147.1 bt149.1 false) else (pledgelaw4_DayYears.j0 k (wrap64 (2000 + t146)) a1 a2 t145 bt147.1 bt149.1 true)) else (pledgelaw4_DayYears.j0 k (wrap64 (2000 + t146)) a1 a2 t145 bt147.1 bt149.1 true))))) else (some false)) = some r := H
  have A4 := Aside0.mk A40
  clear A40
  by_cases c5 : t145 = true
  · subst c5
    have H1 : ((pledgeworld_Number.f a0 108).bind fun t146 => ((day_Of.f k (wrap64 (2000 + t146)) 1 1).bind fun bt147 => ((day_Of.f k (wrap64 ((wrap64 (2000 + t146)) + 1)) 1 1).bind fun bt149 => (if bt147.2.isNone = true then (if bt149.2.isNone = true then (pledgelaw4_DayYears.j0 k (wrap64 (2000 + t146)) a1 a2 true bt147.1 bt149.1 false) else (pledgelaw4_DayYears.j0 k (wrap64 (2000 + t146)) a1 a2 true bt147.1 bt149.1 true)) else (pledgelaw4_DayYears.j0 k (wrap64 (2000 + t146)) a1 a2 true bt147.1 bt149.1 true))))) = some r := by rw [if_pos rfl] at H; exact H
    clear H
    have H := H1
    clear H1
    replace H := Option.bind_eq_some_iff.mp H
    obtain ⟨t146, A60, H⟩ := H
    replace H : ((day_Of.f k (wrap64 (2000 + t146)) 1 1).bind fun bt147 => ((day_Of.f k (wrap64 ((wrap64 (2000 + t146)) + 1)) 1 1).bind fun bt149 => (if bt147.2.isNone = true then (if bt149.2.isNone = true then (pledgelaw4_DayYears.j0 k (wrap64 (2000 + t146)) a1 a2 true bt147.1 bt149.1 false) else (pledgelaw4_DayYears.j0 k (wrap64 (2000 + t146)) a1 a2 true bt147.1 bt149.1 true)) else (pledgelaw4_DayYears.j0 k (wrap64 (2000 + t146)) a1 a2 true bt147.1 bt149.1 true)))) = some r := H
    have A6 := Aside0.mk A60
    clear A60
    replace H := Option.bind_eq_some_iff.mp H
    obtain ⟨⟨t147, t148⟩, A70, H⟩ := H
    replace H : ((day_Of.f k (wrap64 ((wrap64 (2000 + t146)) + 1)) 1 1).bind fun bt149 => (if t148.isNone = true then (if bt149.2.isNone = true then (pledgelaw4_DayYears.j0 k (wrap64 (2000 + t146)) a1 a2 true t147 bt149.1 false) else (pledgelaw4_DayYears.j0 k (wrap64 (2000 + t146)) a1 a2 true t147 bt149.1 true)) else (pledgelaw4_DayYears.j0 k (wrap64 (2000 + t146)) a1 a2 true t147 bt149.1 true))) = some r := H
    have A7 := Aside0.mk A70
    clear A70
    replace H := Option.bind_eq_some_iff.mp H
    obtain ⟨⟨t149, t150⟩, A80, H⟩ := H
    replace H : (if t148.isNone = true then (if t150.isNone = true then (pledgelaw4_DayYears.j0 k (wrap64 (2000 + t146)) a1 a2 true t147 t149 false) else (pledgelaw4_DayYears.j0 k (wrap64 (2000 + t146)) a1 a2 true t147 t149 true)) else (pledgelaw4_DayYears.j0 k (wrap64 (2000 + t146)) a1 a2 true t147 t149 true)) = some r := H
    have A8 := Aside0.mk A80
    clear A80
    have HC9 := Aside0.mk H
    clear H
    go_enter Tryd.func5, Tryd.ntmps5
    go_upto_region 7 with (first | ((with_reducible refine gate_callee (f := 9) rfl ?_); refine goesL_ (some 17) rfl rfl Tryd.func9 (by kernel_rfl) rfl #[] rfl (by (try simp only [List.map_toArray, List.map_cons, List.map_nil]); first | done | rfl | (simp only [List.length_drop, List.length_take]; rfl)) ?_; (with_reducible refine (pledgelaw4_first.calls k  true _ ?side1 A4.out).mono ?_); (case side1 => exact GlobOK.below HG.out (by repeat (first | (with_reducible first | exact HB.out | apply below_alloc | apply pw_below_drewN | apply below_drew1) | exact HB.out))); rintro e w10 ⟨rfl, hb⟩; refine ⟨_, rfl, ?_⟩; have n0_ := Aside0.mk (below_step (by repeat (first | (with_reducible first | exact HB.out | apply below_alloc | apply pw_below_drewN | apply below_drew1) | exact HB.out)) hb); clear HB; have HB := n0_; clear n0_; (try clear hb); (try clear hb2); (try clear hk); (try clear hi)) | ((with_reducible refine gate_callee (f := 10) rfl ?_); refine goesL_ (some 21) rfl rfl Tryd.func10 (by kernel_rfl) rfl #[.int .i64 a0, .int .i64 108] rfl (by (try simp only [List.map_toArray, List.map_cons, List.map_nil]); first | done | rfl | (simp only [List.length_drop, List.length_take]; rfl)) ?_; (with_reducible refine (pledgeworld_Number.calls a0 108 t146 _ A6.out).mono ?_); rintro e w' ⟨rfl, ⟨nd, rfl⟩⟩; refine ⟨_, rfl, ?_⟩) | ((with_reducible refine gate_callee (f := 13) rfl ?_); refine goesL_ (some 26) rfl rfl Tryd.func13 (by kernel_rfl) rfl #[.agg #[.int .i64 (wrap64 (2000 + t146)), .int .i64 1, .int .i64 1]] rfl (by (try simp only [List.map_toArray, List.map_cons, List.map_nil]); first | done | rfl | (simp only [List.length_drop, List.length_take]; rfl)) ?_; (with_reducible refine (day_Of.calls k (wrap64 (2000 + t146)) 1 1 t147 t148 _ ?side1 A7.out).mono ?_); (case side1 => exact GlobOK.below HG.out (by repeat (first | (with_reducible first | exact HB.out | apply below_alloc | apply pw_below_drewN | apply below_drew1) | exact HB.out))); rintro e w11 ⟨rfl, hb⟩; refine ⟨_, rfl, ?_⟩; have n0_ := Aside0.mk (below_step (by repeat (first | (with_reducible first | exact HB.out | apply below_alloc | apply pw_below_drewN | apply below_drew1) | exact HB.out)) hb); clear HB; have HB := n0_; clear n0_; (try clear hb); (try clear hb2); (try clear hk); (try clear hi); (try simp only [errW_none, errW_some])) | ((with_reducible refine gate_callee (f := 13) rfl ?_); refine goesL_ (some 33) rfl rfl Tryd.func13 (by kernel_rfl) rfl #[.agg #[.int .i64 (wrap64 ((wrap64 (2000 + t146)) + 1)), .int .i64 1, .int .i64 1]] rfl (by (try simp only [List.map_toArray, List.map_cons, List.map_nil]); first | done | rfl | (simp only [List.length_drop, List.length_take]; rfl)) ?_; (with_reducible refine (day_Of.calls k (wrap64 ((wrap64 (2000 + t146)) + 1)) 1 1 t149 t150 _ ?side1 A8.out).mono ?_); (case side1 => exact GlobOK.below HG.out (by repeat (first | (with_reducible first | exact HB.out | apply below_alloc | apply pw_below_drewN | apply below_drew1) | exact HB.out))); rintro e w12 ⟨rfl, hb⟩; refine ⟨_, rfl, ?_⟩; have n0_ := Aside0.mk (below_step (by repeat (first | (with_reducible first | exact HB.out | apply below_alloc | apply pw_below_drewN | apply below_drew1) | exact HB.out)) hb); clear HB; have HB := n0_; clear n0_; (try clear hb); (try clear hb2); (try clear hk); (try clear hi); (try simp only [errW_none, errW_some])))
    (try simp only [Act.put, List.setIfInBounds_toArray, List.set_cons_zero, List.set_cons_succ])
    go_cut [41] (fun v41 wc => ∃ (kq : Nat) (x41_8 : Bool), v41 = .bool x41_8 ∧ Aside0 (pledgelaw4_DayYears.j0 kq (wrap64 (2000 + t146)) a1 a2 true t147 t149 x41_8 = some r) ∧ Aside0 (kq ≤ k) ∧ Aside0 (Below w.heap.size w wc))
    case first =>
      have H := HC9.out
      clear HC9
      rcases t148 with _ | q151
      · have H1 : (if t150.isNone = true then (pledgelaw4_DayYears.j0 k (wrap64 (2000 + t146)) a1 a2 true t147 t149 false) else (pledgelaw4_DayYears.j0 k (wrap64 (2000 + t146)) a1 a2 true t147 t149 true)) = some r := by rw [if_pos (show (none : Option Int).isNone = true by rfl)] at H; exact H
        clear H
        have H := H1
        clear H1
        try simp only [errW_none, errW_some]
        rcases t150 with _ | q152
        · have H1 : (pledgelaw4_DayYears.j0 k (wrap64 (2000 + t146)) a1 a2 true t147 t149 false) = some r := by rw [if_pos (show (none : Option Int).isNone = true by rfl)] at H; exact H
          clear H
          have H := H1
          clear H1
          try simp only [errW_none, errW_some]
          have H' := Aside0.mk H
          clear H
          go_wp2
          go_meet
          case rel => exact ⟨_, (false), (by first | rfl | (simp; done) | (simp [*]; done)), H', ⟨by first | omega | exact Nat.le_refl _⟩, ⟨by repeat (first | (with_reducible first | exact HB.out | apply below_alloc | apply pw_below_drewN | apply below_drew1) | exact HB.out)⟩⟩
        · have H1 : (pledgelaw4_DayYears.j0 k (wrap64 (2000 + t146)) a1 a2 true t147 t149 true) = some r := by rw [if_neg (show ¬ (some q152).isNone = true by simp)] at H; exact H
          clear H
          have H := H1
          clear H1
          try simp only [errW_none, errW_some]
          have H' := Aside0.mk H
          clear H
          go_wp2
          go_meet
          case rel => exact ⟨_, (true), (by first | rfl | (simp; done) | (simp [*]; done)), H', ⟨by first | omega | exact Nat.le_refl _⟩, ⟨by repeat (first | (with_reducible first | exact HB.out | apply below_alloc | apply pw_below_drewN | apply below_drew1) | exact HB.out)⟩⟩
      · have H1 : (pledgelaw4_DayYears.j0 k (wrap64 (2000 + t146)) a1 a2 true t147 t149 true) = some r := by rw [if_neg (show ¬ (some q151).isNone = true by simp)] at H; exact H
        clear H
        have H := H1
        clear H1
        try simp only [errW_none, errW_some]
        have H' := Aside0.mk H
        clear H
        go_wp2
        go_meet
        case rel => exact ⟨_, (true), (by first | rfl | (simp; done) | (simp [*]; done)), H', ⟨by first | omega | exact Nat.le_refl _⟩, ⟨by repeat (first | (with_reducible first | exact HB.out | apply below_alloc | apply pw_below_drewN | apply below_drew1) | exact HB.out)⟩⟩
    case rest =>
      clear HC9
      try clear c1
      try clear q1
      try clear p2
      try clear c5
      try clear p6
      try clear c9
      try clear c10
      try clear q151
      try clear q152
      obtain ⟨kq, x41_8, rfl, HA, HJ8, HB⟩ := hcut
      cases kq with
      | zero => exact absurd HA.out (by simp [pledgelaw4_DayYears.j0])
      | succ kj8 =>
        have H := HA.out
        clear HA
        simp only [pledgelaw4_DayYears.j0] at H
        by_cases c13 : x41_8 = true
        · subst c13
          have H1 : (some false) = some r := by rw [if_pos rfl] at H; exact H
          clear H
          have H := H1
          clear H1
          obtain rfl := Option.some.inj H
          go_wp2
          go_ret
          exact ⟨by first | rfl | (simp [errW_none, errW_some] <;> rfl) | (exfalso; simp_all; done) | (simp [*, errW_none, errW_some] <;> rfl), by repeat (first | (with_reducible first | exact HB.out | apply below_alloc | apply pw_below_drewN | apply below_drew1) | exact HB.out)⟩
        · replace c13 := Bool.eq_false_iff.mpr c13
          subst c13
          have H1 : ((day_Leap.f (wrap64 (2000 + t146))).bind fun t153 => (if t153 = true then (pledgelaw4_DayYears.j1 kj8 (wrap64 (2000 + t146)) a1 a2 true t147 t149 366) else (pledgelaw4_DayYears.j1 kj8 (wrap64 (2000 + t146)) a1 a2 true t147 t149 365))) = some r := by rw [if_neg (show ¬ (false = true) by decide)] at H; exact H
          clear H
          have H := H1
          clear H1
          replace H := Option.bind_eq_some_iff.mp H
          obtain ⟨t153, A140, H⟩ := H
          replace H : (if t153 = true then (pledgelaw4_DayYears.j1 kj8 (wrap64 (2000 + t146)) a1 a2 true t147 t149 366) else (pledgelaw4_DayYears.j1 kj8 (wrap64 (2000 + t146)) a1 a2 true t147 t149 365)) = some r := H
          have A14 := Aside0.mk A140
          clear A140
          have HC15 := Aside0.mk H
          clear H
          go_upto_if 43 with (first | ((with_reducible refine gate_callee (f := 11) rfl ?_); refine goesL_ (some 43) rfl rfl Tryd.func11 (by kernel_rfl) rfl #[.int .i64 (wrap64 (2000 + t146))] rfl (by (try simp only [List.map_toArray, List.map_cons, List.map_nil]); first | done | rfl | (simp only [List.length_drop, List.length_take]; rfl)) ?_; (with_reducible refine (day_Leap.calls (wrap64 (2000 + t146)) t153 _ A14.out).mono ?_); rintro e w' ⟨rfl, ⟨nd, rfl⟩⟩; refine ⟨_, rfl, ?_⟩))
          (try simp only [Act.put, List.setIfInBounds_toArray, List.set_cons_zero, List.set_cons_succ])
          go_cut [12] (fun v12 wc => ∃ (kq : Nat) (x12_14 : Int), v12 = .int .i64 x12_14 ∧ Aside0 (pledgelaw4_DayYears.j1 kq (wrap64 (2000 + t146)) a1 a2 true t147 t149 x12_14 = some r) ∧ Aside0 (kq ≤ kj8) ∧ Aside0 (Below w.heap.size w wc))
          case first =>
            have H := HC15.out
            clear HC15
            by_cases c16 : t153 = true
            · subst c16
              have H1 : (pledgelaw4_DayYears.j1 kj8 (wrap64 (2000 + t146)) a1 a2 true t147 t149 366) = some r := by rw [if_pos rfl] at H; exact H
              clear H
              have H := H1
              clear H1
              have H' := Aside0.mk H
              clear H
              go_wp2
              go_meet
              case rel => exact ⟨_, (366), (by first | rfl | (simp; done) | (simp [*]; done)), H', ⟨by have := HJ8.out; first | omega | exact Nat.le_refl _⟩, ⟨by repeat (first | (with_reducible first | exact HB.out | apply below_alloc | apply pw_below_drewN | apply below_drew1) | exact HB.out)⟩⟩
            · replace c16 := Bool.eq_false_iff.mpr c16
              subst c16
              have H1 : (pledgelaw4_DayYears.j1 kj8 (wrap64 (2000 + t146)) a1 a2 true t147 t149 365) = some r := by rw [if_neg (show ¬ (false = true) by decide)] at H; exact H
              clear H
              have H := H1
              clear H1
              have H' := Aside0.mk H
              clear H
              go_wp2
              go_meet
              case rel => exact ⟨_, (365), (by first | rfl | (simp; done) | (simp [*]; done)), H', ⟨by have := HJ8.out; first | omega | exact Nat.le_refl _⟩, ⟨by repeat (first | (with_reducible first | exact HB.out | apply below_alloc | apply pw_below_drewN | apply below_drew1) | exact HB.out)⟩⟩
          case rest =>
            clear HC15
            try clear c1
            try clear q1
            try clear p2
            try clear c5
            try clear p6
            try clear c9
            try clear c10
            try clear c11
            try clear c13
            try clear q15
            try clear c16
            try clear p2
            try clear p6
            try clear q1
            try clear q151
            try clear q152
            obtain ⟨kq, x12_14, rfl, HA, HJ14, HB⟩ := hcut
            cases kq with
            | zero => exact absurd HA.out (by simp [pledgelaw4_DayYears.j1])
            | succ kj14 =>
              have H := HA.out
              clear HA
              simp only [pledgelaw4_DayYears.j1] at H
              replace H := Option.bind_eq_some_iff.mp H
              obtain ⟨t154, A170, H⟩ := H
              replace H : ((pledgeworld_Number.f a2 33).bind fun t155 => ((day_Of.f kj14 (wrap64 (2000 + t146)) t154 t155).bind fun bt156 => ((some (([0, 31, 28, 31, 30, 31, 30, 31, 31, 30, 31, 30, 31, 0] : List Int) : List Int)).bind fun y158 => (if 0 ≤ t154 then (if t154 < (y158.length : Int) then (if t154 = 2 then (pledgelaw4_DayYears.j2 kj14 t155 true t147 t149 x12_14 bt156.1 bt156.2 (rd y158 t154) (x12_14 == 366)) else (pledgelaw4_DayYears.j2 kj14 t155 true t147 t149 x12_14 bt156.1 bt156.2 (rd y158 t154) false)) else (none)) else (none))))) = some r := H
              have A17 := Aside0.mk A170
              clear A170
              replace H := Option.bind_eq_some_iff.mp H
              obtain ⟨t155, A180, H⟩ := H
              replace H : ((day_Of.f kj14 (wrap64 (2000 + t146)) t154 t155).bind fun bt156 => ((some (([0, 31, 28, 31, 30, 31, 30, 31, 31, 30, 31, 30, 31, 0] : List Int) : List Int)).bind fun y158 => (if 0 ≤ t154 then (if t154 < (y158.length : Int) then (if t154 = 2 then (pledgelaw4_DayYears.j2 kj14 t155 true t147 t149 x12_14 bt156.1 bt156.2 (rd y158 t154) (x12_14 == 366)) else (pledgelaw4_DayYears.j2 kj14 t155 true t147 t149 x12_14 bt156.1 bt156.2 (rd y158 t154) false)) else (none)) else (none)))) = some r := H
              have A18 := Aside0.mk A180
              clear A180
              replace H := Option.bind_eq_some_iff.mp H
              obtain ⟨⟨t156, t157⟩, A190, H⟩ := H
              replace H : ((some (([0, 31, 28, 31, 30, 31, 30, 31, 31, 30, 31, 30, 31, 0] : List Int) : List Int)).bind fun y158 => (if 0 ≤ t154 then (if t154 < (y158.length : Int) then (if t154 = 2 then (pledgelaw4_DayYears.j2 kj14 t155 true t147 t149 x12_14 t156 t157 (rd y158 t154) (x12_14 == 366)) else (pledgelaw4_DayYears.j2 kj14 t155 true t147 t149 x12_14 t156 t157 (rd y158 t154) false)) else (none)) else (none))) = some r := H
              have A19 := Aside0.mk A190
              clear A190
              obtain ⟨y158, hy158⟩ : ∃ y_ : List Int, y_ = (([0, 31, 28, 31, 30, 31, 30, 31, 31, 30, 31, 30, 31, 0] : List Int)) := ⟨_, rfl⟩
              replace H : (if 0 ≤ t154 then (if t154 < (y158.length : Int) then (if t154 = 2 then (pledgelaw4_DayYears.j2 kj14 t155 true t147 t149 x12_14 t156 t157 (rd y158 t154) (x12_14 == 366)) else (pledgelaw4_DayYears.j2 kj14 t155 true t147 t149 x12_14 t156 t157 (rd y158 t154) false)) else (none)) else (none)) = some r := by first | (rw [hy158]; with_reducible exact H) | (have H2_ := (Option.bind_some _ _).symm.trans H; rw [hy158]; with_reducible exact H2_) | (have H2_ := (Option.bind_some _ _).symm.trans H; with_reducible exact H2_) | with_reducible exact H | (rw [hy158]; exact H) | exact H
              have Ny158 := Aside0.mk hy158
              clear hy158
              by_cases c20 : 0 ≤ t154
              · rw [if_pos c20] at H
                have c20b0 : decide (0 ≤ t154) = true := decide_eq_true c20
                clear c20
                by_cases c21 : t154 < (y158.length : Int)
                · rw [if_pos c21] at H
                  have c21b0 : decide (t154 < (y158.length : Int)) = true := decide_eq_true c21
                  clear c21
                  have HC22 := Aside0.mk H
                  clear H
                  go_upto_region 16 with (first | ((with_reducible refine gate_callee (f := 10) rfl ?_); refine goesL_ (some 45) rfl rfl Tryd.func10 (by kernel_rfl) rfl #[.int .i64 a1, .int .i64 14] rfl (by (try simp only [List.map_toArray, List.map_cons, List.map_nil]); first | done | rfl | (simp only [List.length_drop, List.length_take]; rfl)) ?_; (with_reducible refine (pledgeworld_Number.calls a1 14 t154 _ A17.out).mono ?_); rintro e w' ⟨rfl, ⟨nd, rfl⟩⟩; refine ⟨_, rfl, ?_⟩) | ((with_reducible refine gate_callee (f := 10) rfl ?_); refine goesL_ (some 47) rfl rfl Tryd.func10 (by kernel_rfl) rfl #[.int .i64 a2, .int .i64 33] rfl (by (try simp only [List.map_toArray, List.map_cons, List.map_nil]); first | done | rfl | (simp only [List.length_drop, List.length_take]; rfl)) ?_; (with_reducible refine (pledgeworld_Number.calls a2 33 t155 _ A18.out).mono ?_); rintro e w' ⟨rfl, ⟨nd, rfl⟩⟩; refine ⟨_, rfl, ?_⟩) | ((with_reducible refine gate_callee (f := 13) rfl ?_); refine goesL_ (some 53) rfl rfl Tryd.func13 (by kernel_rfl) rfl #[.agg #[.int .i64 (wrap64 (2000 + t146)), .int .i64 t154, .int .i64 t155]] rfl (by (try simp only [List.map_toArray, List.map_cons, List.map_nil]); first | done | rfl | (simp only [List.length_drop, List.length_take]; rfl)) ?_; (with_reducible refine (day_Of.calls kj14 (wrap64 (2000 + t146)) t154 t155 t156 t157 _ ?side1 A19.out).mono ?_); (case side1 => exact GlobOK.below HG.out (by repeat (first | (with_reducible first | exact HB.out | apply below_alloc | apply pw_below_drewN | apply below_drew1) | exact HB.out))); rintro e w23 ⟨rfl, hb⟩; refine ⟨_, rfl, ?_⟩; have n0_ := Aside0.mk (below_step (by repeat (first | (with_reducible first | exact HB.out | apply below_alloc | apply pw_below_drewN | apply below_drew1) | exact HB.out)) hb); clear HB; have HB := n0_; clear n0_; (try clear hb); (try clear hb2); (try clear hk); (try clear hi); (try simp only [errW_none, errW_some])) | ((with_reducible refine gate_dst (N := 56) rfl ?_); refine Kd.R_lit (Kd.int .i64) _ 3 ?hg (N := 56) ?hd (xs := ([0, 31, 28, 31, 30, 31, 30, 31, 31, 30, 31, 30, 31, 0] : List Int)) (inner := [.int .i64 0, .int .i64 31, .int .i64 28, .int .i64 31, .int .i64 30, .int .i64 31, .int .i64 30, .int .i64 31, .int .i64 31, .int .i64 30, .int .i64 31, .int .i64 30, .int .i64 31, .int .i64 0]) (ok := fun _ => True) (okp := fun _ => True) ?hr ?hp (fun _ hk => hk) trivial (Below.refl _ _) (Nat.le_refl _) (by simp) ?_; (case hd => rfl); (case hg => rfl); (case hr => first | (go_simp; done) | (go_simp; rfl)); (case hp => exact (Reps.one (show Kd.M (Kd.int .i64) _ _ _ 0 [.int .i64 0] from rfl) (Reps.one (show Kd.M (Kd.int .i64) _ _ _ 31 [.int .i64 31] from rfl) (Reps.one (show Kd.M (Kd.int .i64) _ _ _ 28 [.int .i64 28] from rfl) (Reps.one (show Kd.M (Kd.int .i64) _ _ _ 31 [.int .i64 31] from rfl) (Reps.one (show Kd.M (Kd.int .i64) _ _ _ 30 [.int .i64 30] from rfl) (Reps.one (show Kd.M (Kd.int .i64) _ _ _ 31 [.int .i64 31] from rfl) (Reps.one (show Kd.M (Kd.int .i64) _ _ _ 30 [.int .i64 30] from rfl) (Reps.one (show Kd.M (Kd.int .i64) _ _ _ 31 [.int .i64 31] from rfl) (Reps.one (show Kd.M (Kd.int .i64) _ _ _ 31 [.int .i64 31] from rfl) (Reps.one (show Kd.M (Kd.int .i64) _ _ _ 30 [.int .i64 30] from rfl) (Reps.one (show Kd.M (Kd.int .i64) _ _ _ 31 [.int .i64 31] from rfl) (Reps.one (show Kd.M (Kd.int .i64) _ _ _ 30 [.int .i64 30] from rfl) (Reps.one (show Kd.M (Kd.int .i64) _ _ _ 31 [.int .i64 31] from rfl) (Reps.one (show Kd.M (Kd.int .i64) _ _ _ 0 [.int .i64 0] from rfl) (Reps.none _ _)))))))))))))))); intro v159 w24 ho25 hb hg_ hnew_; clear hg_ hnew_; (first | rw [← Ny158.out] at ho25 | (simp only [Int.reduceToNat] at ho25; rw [← Ny158.out] at ho25)); have n0_ := Aside0.mk (Kd.R_lower ho25 (below_size (by repeat (first | (with_reducible first | exact HB.out | apply below_alloc | apply pw_below_drewN | apply below_drew1) | exact HB.out)))); have n1_ := Aside0.mk (below_step (by repeat (first | (with_reducible first | exact HB.out | apply below_alloc | apply pw_below_drewN | apply below_drew1) | exact HB.out)) hb); clear HB; have HO160 := n0_; have HB := n1_; clear n0_ n1_; clear hb ho25; obtain ⟨Ao26, co26, eo26⟩ := Kd.R_slice HO160.out; subst eo26; have p161 : 0 ≤ (t154 : Int) := of_decide_eq_true (by first | (with_reducible assumption) | assumption); have q161 : t154 < (y158.length : Int) := of_decide_eq_true (by first | (with_reducible assumption) | assumption); obtain ⟨ad161, e161, hx161_0⟩ := Kd.at_int (Kd.R_reads' HO160.out).2.2 t154 p161 q161; cases e161; replace p161 := eq_true p161; replace q161 := eq_true q161))
                  (try simp only [Act.put, List.setIfInBounds_toArray, List.set_cons_zero, List.set_cons_succ])
                  go_cut [65] (fun v65 wc => ∃ (kq : Nat) (x65_21 : Bool), v65 = .bool x65_21 ∧ Aside0 (pledgelaw4_DayYears.j2 kq t155 true t147 t149 x12_14 t156 t157 (rd y158 t154) x65_21 = some r) ∧ Aside0 (kq ≤ kj14) ∧ Aside0 (Below w.heap.size w wc))
                  case first =>
                    have H := HC22.out
                    clear HC22
                    by_cases c27 : t154 = 2
                    · rw [if_pos c27] at H
                      have c27b0 : (t154 == 2) = true := beq_iff_eq.mpr c27
                      have c27b1 : (t154 != 2) = false := bne_eq_false_iff_eq.mpr c27
                      clear c27
                      (first | rw [c27b0] | (simp only [i64_w, i32_w]; rw [c27b0]) | skip)
                      have H' := Aside0.mk H
                      clear H
                      go_wp2
                      go_meet
                      case rel => exact ⟨_, ((x12_14 == 366)), (by first | rfl | (simp; done) | (simp [*]; done)), H', ⟨by have := HJ8.out; have := HJ14.out; first | omega | exact Nat.le_refl _⟩, ⟨by repeat (first | (with_reducible first | exact HB.out | apply below_alloc | apply pw_below_drewN | apply below_drew1) | exact HB.out)⟩⟩
                    · rw [if_neg c27] at H
                      have c27b0 : (t154 == 2) = false := beq_eq_false_iff_ne.mpr c27
                      have c27b1 : (t154 != 2) = true := bne_iff_ne.mpr c27
                      (first | rw [c27b0] | (simp only [i64_w, i32_w]; rw [c27b0]) | skip)
                      have H' := Aside0.mk H
                      clear H
                      go_wp2
                      go_meet
                      case rel => exact ⟨_, (false), (by first | rfl | (simp; done) | (simp [*]; done)), H', ⟨by have := HJ8.out; have := HJ14.out; first | omega | exact Nat.le_refl _⟩, ⟨by repeat (first | (with_reducible first | exact HB.out | apply below_alloc | apply pw_below_drewN | apply below_drew1) | exact HB.out)⟩⟩
                  case rest =>
                    clear HC22
                    try clear c1
                    try clear p1
                    try clear q1
                    try clear hx1
                    try clear c2
                    try clear p2
                    try clear c5
                    try clear p6
                    try clear c9
                    try clear c10
                    try clear c11
                    try clear c13
                    try clear q15
                    try clear c16
                    try clear p16
                    try clear q16
                    try clear hx16
                    try clear c20
                    try clear c20b0
                    try clear c21
                    try clear c21b0
                    try clear c27
                    try clear c27b0
                    try clear c27b1
                    try clear hx161_0
                    try clear p161
                    try clear p2
                    try clear p6
                    try clear q1
                    try clear q15
                    try clear q151
                    try clear q152
                    try clear q161
                    obtain ⟨kq, x65_21, rfl, HA, HJ21, HB⟩ := hcut
                    cases kq with
                    | zero => exact absurd HA.out (by simp [pledgelaw4_DayYears.j2])
                    | succ kj21 =>
                      have H := HA.out
                      clear HA
                      simp only [pledgelaw4_DayYears.j2] at H
                      by_cases c28 : x65_21 = true
                      · subst c28
                        have H1 : (if t155 ≥ 1 then (if t157.isNone = true then (if (true != (decide (t155 ≤ 29))) = true then (some false) else (if t155 ≤ 29 then (if t156 < t147 then (some false) else (if t156 ≥ t149 then (some false) else (if true = true then (some ((wrap64 (t149 - t147)) == x12_14)) else (some false)))) else ((pledgesee_Is.f none 103).bind fun t163 => (if t163 = true then (if true = true then (some ((wrap64 (t149 - t147)) == x12_14)) else (some false)) else (some false))))) else (if (false != (decide (t155 ≤ 29))) = true then (some false) else (if t155 ≤ 29 then (if t156 < t147 then (some false) else (if t156 ≥ t149 then (some false) else (if true = true then (some ((wrap64 (t149 - t147)) == x12_14)) else (some false)))) else ((pledgesee_Is.f (some (t157.getD 0)) 103).bind fun t164 => (if t164 = true then (if true = true then (some ((wrap64 (t149 - t147)) == x12_14)) else (some false)) else (some false)))))) else (if t157.isNone = true then (some false) else ((pledgesee_Is.f (some (t157.getD 0)) 103).bind fun t166 => (if t166 = true then (if true = true then (some ((wrap64 (t149 - t147)) == x12_14)) else (some false)) else (some false))))) = some r := by rw [if_pos rfl] at H; exact H
                        clear H
                        have H := H1
                        clear H1
                        by_cases c29 : t155 ≥ 1
                        · rw [if_pos c29] at H
                          have c29b0 : decide (1 ≤ t155) = true := decide_eq_true c29
                          clear c29
                          rcases t157 with _ | q162
                          · have H1 : (if (true != (decide (t155 ≤ 29))) = true then (some false) else (if t155 ≤ 29 then (if t156 < t147 then (some false) else (if t156 ≥ t149 then (some false) else (if true = true then (some ((wrap64 (t149 - t147)) == x12_14)) else (some false)))) else ((pledgesee_Is.f none 103).bind fun t163 => (if t163 = true then (if true = true then (some ((wrap64 (t149 - t147)) == x12_14)) else (some false)) else (some false))))) = some r := by rw [if_pos (show (none : Option Int).isNone = true by rfl)] at H; exact H
                            clear H
                            have H := H1
                            clear H1
                            try simp only [errW_none, errW_some]
                            by_cases c30 : (true != (decide (t155 ≤ 29))) = true
                            · rw [if_pos c30] at H
                              have c30b0 : (true != (decide (t155 ≤ 29))) = true := c30
                              (try (have c30b1 : decide (true = (decide (t155 ≤ 29))) = false := by simpa using c30))
                              (try (have c30b2 : (true == (decide (t155 ≤ 29))) = false := by simpa using c30))
                              (try (have c30b3 : ¬ (true = (decide (t155 ≤ 29))) := by simpa using c30))
                              clear c30
                              obtain rfl := Option.some.inj H
                              go_wp2
                              go_ret
                              exact ⟨by first | rfl | (simp [errW_none, errW_some] <;> rfl) | (exfalso; simp_all; done) | (simp [*, errW_none, errW_some] <;> rfl), by repeat (first | (with_reducible first | exact HB.out | apply below_alloc | apply pw_below_drewN | apply below_drew1) | exact HB.out)⟩
                            · rw [if_neg c30] at H
                              have c30b0 : (true != (decide (t155 ≤ 29))) = false := by simpa using c30
                              (try (have c30b1 : decide (true = (decide (t155 ≤ 29))) = true := by simpa using c30))
                              (try (have c30b2 : (true == (decide (t155 ≤ 29))) = true := by simpa using c30))
                              clear c30
                              by_cases c31 : t155 ≤ 29
                              · rw [if_pos c31] at H
                                have c31b0 : decide (t155 ≤ 29) = true := decide_eq_true c31
                                clear c31
                                by_cases c32 : t156 < t147
                                · rw [if_pos c32] at H
                                  have c32b0 : decide (t156 < t147) = true := decide_eq_true c32
                                  clear c32
                                  obtain rfl := Option.some.inj H
                                  go_wp2
                                  go_ret
                                  exact ⟨by first | rfl | (simp [errW_none, errW_some] <;> rfl) | (exfalso; simp_all; done) | (simp [*, errW_none, errW_some] <;> rfl), by repeat (first | (with_reducible first | exact HB.out | apply below_alloc | apply pw_below_drewN | apply below_drew1) | exact HB.out)⟩
                                · rw [if_neg c32] at H
                                  have c32b0 : decide (t156 < t147) = false := decide_eq_false c32
                                  clear c32
                                  by_cases c33 : t156 ≥ t149
                                  · rw [if_pos c33] at H
                                    have c33b0 : decide (t149 ≤ t156) = true := decide_eq_true c33
                                    clear c33
                                    obtain rfl := Option.some.inj H
                                    go_wp2
                                    go_ret
                                    exact ⟨by first | rfl | (simp [errW_none, errW_some] <;> rfl) | (exfalso; simp_all; done) | (simp [*, errW_none, errW_some] <;> rfl), by repeat (first | (with_reducible first | exact HB.out | apply below_alloc | apply pw_below_drewN | apply below_drew1) | exact HB.out)⟩
                                  · rw [if_neg c33] at H
                                    have c33b0 : decide (t149 ≤ t156) = false := decide_eq_false c33
                                    clear c33
                                    have H1 : (some ((wrap64 (t149 - t147)) == x12_14)) = some r := by first | (rw [if_pos rfl] at H; exact H) | (rw [if_pos trivial] at H; exact H)
                                    clear H
                                    have H := H1
                                    clear H1
                                    obtain rfl := Option.some.inj H
                                    go_wp2
                                    go_ret
                                    exact ⟨by first | rfl | (simp [errW_none, errW_some] <;> rfl) | (exfalso; simp_all; done) | (simp [*, errW_none, errW_some] <;> rfl), by repeat (first | (with_reducible first | exact HB.out | apply below_alloc | apply pw_below_drewN | apply below_drew1) | exact HB.out)⟩
                              · rw [if_neg c31] at H
                                have c31b0 : decide (t155 ≤ 29) = false := decide_eq_false c31
                                clear c31
                                replace H := Option.bind_eq_some_iff.mp H
                                obtain ⟨t163, A340, H⟩ := H
                                replace H : (if t163 = true then (if true = true then (some ((wrap64 (t149 - t147)) == x12_14)) else (some false)) else (some false)) = some r := H
                                have A34 := Aside0.mk A340
                                clear A340
                                by_cases c35 : t163 = true
                                · subst c35
                                  have H1 : (if true = true then (some ((wrap64 (t149 - t147)) == x12_14)) else (some false)) = some r := by rw [if_pos rfl] at H; exact H
                                  clear H
                                  have H := H1
                                  clear H1
                                  have H1 : (some ((wrap64 (t149 - t147)) == x12_14)) = some r := by first | (rw [if_pos rfl] at H; exact H) | (rw [if_pos trivial] at H; exact H)
                                  clear H
                                  have H := H1
                                  clear H1
                                  obtain rfl := Option.some.inj H
                                  have CA34 := fun W hG_ => pledgesee_Is.calls none 103 true W hG_ A34.out
                                  try simp only [errW_none, errW_some] at CA34
                                  go_wp2_with (first | (go_at_call 14; (with_reducible refine (CA34 _ ?side1).mono ?_); (case side1 => exact GlobOK.below HG.out (by repeat (first | (with_reducible first | exact HB.out | apply below_alloc | apply pw_below_drewN | apply below_drew1) | exact HB.out))); rintro e w36 ⟨rfl, hb⟩; have n0_ := Aside0.mk (below_step (by repeat (first | (with_reducible first | exact HB.out | apply below_alloc | apply pw_below_drewN | apply below_drew1) | exact HB.out)) hb); clear HB; have HB := n0_; clear n0_; (try clear hb); (try clear hb2); (try clear hk); (try clear hi)))
                                  go_ret
                                  exact ⟨by first | rfl | (simp [errW_none, errW_some] <;> rfl) | (exfalso; simp_all; done) | (simp [*, errW_none, errW_some] <;> rfl), by repeat (first | (with_reducible first | exact HB.out | apply below_alloc | apply pw_below_drewN | apply below_drew1) | exact HB.out)⟩
                                · replace c35 := Bool.eq_false_iff.mpr c35
                                  subst c35
                                  have H1 : (some false) = some r := by rw [if_neg (show ¬ (false = true) by decide)] at H; exact H
                                  clear H
                                  have H := H1
                                  clear H1
                                  obtain rfl := Option.some.inj H
                                  have CA34 := fun W hG_ => pledgesee_Is.calls none 103 false W hG_ A34.out
                                  try simp only [errW_none, errW_some] at CA34
                                  go_wp2_with (first | (go_at_call 14; (with_reducible refine (CA34 _ ?side1).mono ?_); (case side1 => exact GlobOK.below HG.out (by repeat (first | (with_reducible first | exact HB.out | apply below_alloc | apply pw_below_drewN | apply below_drew1) | exact HB.out))); rintro e w37 ⟨rfl, hb⟩; have n0_ := Aside0.mk (below_step (by repeat (first | (with_reducible first | exact HB.out | apply below_alloc | apply pw_below_drewN | apply below_drew1) | exact HB.out)) hb); clear HB; have HB := n0_; clear n0_; (try clear hb); (try clear hb2); (try clear hk); (try clear hi)))
                                  go_ret
                                  exact ⟨by first | rfl | (simp [errW_none, errW_some] <;> rfl) | (exfalso; simp_all; done) | (simp [*, errW_none, errW_some] <;> rfl), by repeat (first | (with_reducible first | exact HB.out | apply below_alloc | apply pw_below_drewN | apply below_drew1) | exact HB.out)⟩
                          · have H1 : (if (false != (decide (t155 ≤ 29))) = true then (some false) else (if t155 ≤ 29 then (if t156 < t147 then (some false) else (if t156 ≥ t149 then (some false) else (if true = true then (some ((wrap64 (t149 - t147)) == x12_14)) else (some false)))) else ((pledgesee_Is.f (some q162) 103).bind fun t164 => (if t164 = true then (if true = true then (some ((wrap64 (t149 - t147)) == x12_14)) else (some false)) else (some false))))) = some r := by rw [if_neg (show ¬ (some q162).isNone = true by simp)] at H; exact H
                            clear H
                            have H := H1
                            clear H1
                            try simp only [errW_none, errW_some]
                            by_cases c38 : (false != (decide (t155 ≤ 29))) = true
                            · rw [if_pos c38] at H
                              have c38b0 : (false != (decide (t155 ≤ 29))) = true := c38
                              (try (have c38b1 : decide (false = (decide (t155 ≤ 29))) = false := by simpa using c38))
                              (try (have c38b2 : (false == (decide (t155 ≤ 29))) = false := by simpa using c38))
                              (try (have c38b3 : ¬ (false = (decide (t155 ≤ 29))) := by simpa using c38))
                              clear c38
                              obtain rfl := Option.some.inj H
                              go_wp2
                              go_ret
                              exact ⟨by first | rfl | (simp [errW_none, errW_some] <;> rfl) | (exfalso; simp_all; done) | (simp [*, errW_none, errW_some] <;> rfl), by repeat (first | (with_reducible first | exact HB.out | apply below_alloc | apply pw_below_drewN | apply below_drew1) | exact HB.out)⟩
                            · rw [if_neg c38] at H
                              have c38b0 : (false != (decide (t155 ≤ 29))) = false := by simpa using c38
                              (try (have c38b1 : decide (false = (decide (t155 ≤ 29))) = true := by simpa using c38))
                              (try (have c38b2 : (false == (decide (t155 ≤ 29))) = true := by simpa using c38))
                              clear c38
                              by_cases c39 : t155 ≤ 29
                              · rw [if_pos c39] at H
                                have c39b0 : decide (t155 ≤ 29) = true := decide_eq_true c39
                                clear c39
                                by_cases c40 : t156 < t147
                                · rw [if_pos c40] at H
                                  have c40b0 : decide (t156 < t147) = true := decide_eq_true c40
                                  clear c40
                                  obtain rfl := Option.some.inj H
                                  go_wp2
                                  go_ret
                                  exact ⟨by first | rfl | (simp [errW_none, errW_some] <;> rfl) | (exfalso; simp_all; done) | (simp [*, errW_none, errW_some] <;> rfl), by repeat (first | (with_reducible first | exact HB.out | apply below_alloc | apply pw_below_drewN | apply below_drew1) | exact HB.out)⟩
                                · rw [if_neg c40] at H
                                  have c40b0 : decide (t156 < t147) = false := decide_eq_false c40
                                  clear c40
                                  by_cases c41 : t156 ≥ t149
                                  · rw [if_pos c41] at H
                                    have c41b0 : decide (t149 ≤ t156) = true := decide_eq_true c41
                                    clear c41
                                    obtain rfl := Option.some.inj H
                                    go_wp2
                                    go_ret
                                    exact ⟨by first | rfl | (simp [errW_none, errW_some] <;> rfl) | (exfalso; simp_all; done) | (simp [*, errW_none, errW_some] <;> rfl), by repeat (first | (with_reducible first | exact HB.out | apply below_alloc | apply pw_below_drewN | apply below_drew1) | exact HB.out)⟩
                                  · rw [if_neg c41] at H
                                    have c41b0 : decide (t149 ≤ t156) = false := decide_eq_false c41
                                    clear c41
                                    have H1 : (some ((wrap64 (t149 - t147)) == x12_14)) = some r := by first | (rw [if_pos rfl] at H; exact H) | (rw [if_pos trivial] at H; exact H)
                                    clear H
                                    have H := H1
                                    clear H1
                                    obtain rfl := Option.some.inj H
                                    go_wp2
                                    go_ret
                                    exact ⟨by first | rfl | (simp [errW_none, errW_some] <;> rfl) | (exfalso; simp_all; done) | (simp [*, errW_none, errW_some] <;> rfl), by repeat (first | (with_reducible first | exact HB.out | apply below_alloc | apply pw_below_drewN | apply below_drew1) | exact HB.out)⟩
                              · rw [if_neg c39] at H
                                have c39b0 : decide (t155 ≤ 29) = false := decide_eq_false c39
                                clear c39
                                replace H := Option.bind_eq_some_iff.mp H
                                obtain ⟨t164, A420, H⟩ := H
                                replace H : (if t164 = true then (if true = true then (some ((wrap64 (t149 - t147)) == x12_14)) else (some false)) else (some false)) = some r := H
                                have A42 := Aside0.mk A420
                                clear A420
                                by_cases c43 : t164 = true
                                · subst c43
                                  have H1 : (if true = true then (some ((wrap64 (t149 - t147)) == x12_14)) else (some false)) = some r := by rw [if_pos rfl] at H; exact H
                                  clear H
                                  have H := H1
                                  clear H1
                                  have H1 : (some ((wrap64 (t149 - t147)) == x12_14)) = some r := by first | (rw [if_pos rfl] at H; exact H) | (rw [if_pos trivial] at H; exact H)
                                  clear H
                                  have H := H1
                                  clear H1
                                  obtain rfl := Option.some.inj H
                                  have CA42 := fun W hG_ => pledgesee_Is.calls (some q162) 103 true W hG_ A42.out
                                  try simp only [errW_none, errW_some] at CA42
                                  go_wp2_with (first | (go_at_call 14; (with_reducible refine (CA42 _ ?side1).mono ?_); (case side1 => exact GlobOK.below HG.out (by repeat (first | (with_reducible first | exact HB.out | apply below_alloc | apply pw_below_drewN | apply below_drew1) | exact HB.out))); rintro e w44 ⟨rfl, hb⟩; have n0_ := Aside0.mk (below_step (by repeat (first | (with_reducible first | exact HB.out | apply below_alloc | apply pw_below_drewN | apply below_drew1) | exact HB.out)) hb); clear HB; have HB := n0_; clear n0_; (try clear hb); (try clear hb2); (try clear hk); (try clear hi)))
                                  go_ret
                                  exact ⟨by first | rfl | (simp [errW_none, errW_some] <;> rfl) | (exfalso; simp_all; done) | (simp [*, errW_none, errW_some] <;> rfl), by repeat (first | (with_reducible first | exact HB.out | apply below_alloc | apply pw_below_drewN | apply below_drew1) | exact HB.out)⟩
                                · replace c43 := Bool.eq_false_iff.mpr c43
                                  subst c43
                                  have H1 : (some false) = some r := by rw [if_neg (show ¬ (false = true) by decide)] at H; exact H
                                  clear H
                                  have H := H1
                                  clear H1
                                  obtain rfl := Option.some.inj H
                                  have CA42 := fun W hG_ => pledgesee_Is.calls (some q162) 103 false W hG_ A42.out
                                  try simp only [errW_none, errW_some] at CA42
                                  go_wp2_with (first | (go_at_call 14; (with_reducible refine (CA42 _ ?side1).mono ?_); (case side1 => exact GlobOK.below HG.out (by repeat (first | (with_reducible first | exact HB.out | apply below_alloc | apply pw_below_drewN | apply below_drew1) | exact HB.out))); rintro e w45 ⟨rfl, hb⟩; have n0_ := Aside0.mk (below_step (by repeat (first | (with_reducible first | exact HB.out | apply below_alloc | apply pw_below_drewN | apply below_drew1) | exact HB.out)) hb); clear HB; have HB := n0_; clear n0_; (try clear hb); (try clear hb2); (try clear hk); (try clear hi)))
                                  go_ret
                                  exact ⟨by first | rfl | (simp [errW_none, errW_some] <;> rfl) | (exfalso; simp_all; done) | (simp [*, errW_none, errW_some] <;> rfl), by repeat (first | (with_reducible first | exact HB.out | apply below_alloc | apply pw_below_drewN | apply below_drew1) | exact HB.out)⟩
                        · rw [if_neg c29] at H
                          have c29b0 : decide (1 ≤ t155) = false := decide_eq_false c29
                          clear c29
                          rcases t157 with _ | q165
                          · have H1 : (some false) = some r := by rw [if_pos (show (none : Option Int).isNone = true by rfl)] at H; exact H
                            clear H
                            have H := H1
                            clear H1
                            try simp only [errW_none, errW_some]
                            obtain rfl := Option.some.inj H
                            go_wp2
                            go_ret
                            exact ⟨by first | rfl | (simp [errW_none, errW_some] <;> rfl) | (exfalso; simp_all; done) | (simp [*, errW_none, errW_some] <;> rfl), by repeat (first | (with_reducible first | exact HB.out | apply below_alloc | apply pw_below_drewN | apply below_drew1) | exact HB.out)⟩
                          · have H1 : ((pledgesee_Is.f (some q165) 103).bind fun t166 => (if t166 = true then (if true = true then (some ((wrap64 (t149 - t147)) == x12_14)) else (some false)) else (some false))) = some r := by rw [if_neg (show ¬ (some q165).isNone = true by simp)] at H; exact H
                            clear H
                            have H := H1
                            clear H1
                            try simp only [errW_none, errW_some]
                            replace H := Option.bind_eq_some_iff.mp H
                            obtain ⟨t166, A460, H⟩ := H
                            replace H : (if t166 = true then (if true = true then (some ((wrap64 (t149 - t147)) == x12_14)) else (some false)) else (some false)) = some r := H
                            have A46 := Aside0.mk A460
                            clear A460
                            by_cases c47 : t166 = true
                            · subst c47
                              have H1 : (if true = true then (some ((wrap64 (t149 - t147)) == x12_14)) else (some false)) = some r := by rw [if_pos rfl] at H; exact H
                              clear H
                              have H := H1
                              clear H1
                              have H1 : (some ((wrap64 (t149 - t147)) == x12_14)) = some r := by first | (rw [if_pos rfl] at H; exact H) | (rw [if_pos trivial] at H; exact H)
                              clear H
                              have H := H1
                              clear H1
                              obtain rfl := Option.some.inj H
                              have CA46 := fun W hG_ => pledgesee_Is.calls (some q165) 103 true W hG_ A46.out
                              try simp only [errW_none, errW_some] at CA46
                              go_wp2_with (first | (go_at_call 14; (with_reducible refine (CA46 _ ?side1).mono ?_); (case side1 => exact GlobOK.below HG.out (by repeat (first | (with_reducible first | exact HB.out | apply below_alloc | apply pw_below_drewN | apply below_drew1) | exact HB.out))); rintro e w48 ⟨rfl, hb⟩; have n0_ := Aside0.mk (below_step (by repeat (first | (with_reducible first | exact HB.out | apply below_alloc | apply pw_below_drewN | apply below_drew1) | exact HB.out)) hb); clear HB; have HB := n0_; clear n0_; (try clear hb); (try clear hb2); (try clear hk); (try clear hi)))
                              go_ret
                              exact ⟨by first | rfl | (simp [errW_none, errW_some] <;> rfl) | (exfalso; simp_all; done) | (simp [*, errW_none, errW_some] <;> rfl), by repeat (first | (with_reducible first | exact HB.out | apply below_alloc | apply pw_below_drewN | apply below_drew1) | exact HB.out)⟩
                            · replace c47 := Bool.eq_false_iff.mpr c47
                              subst c47
                              have H1 : (some false) = some r := by rw [if_neg (show ¬ (false = true) by decide)] at H; exact H
                              clear H
                              have H := H1
                              clear H1
                              obtain rfl := Option.some.inj H
                              have CA46 := fun W hG_ => pledgesee_Is.calls (some q165) 103 false W hG_ A46.out
                              try simp only [errW_none, errW_some] at CA46
                              go_wp2_with (first | (go_at_call 14; (with_reducible refine (CA46 _ ?side1).mono ?_); (case side1 => exact GlobOK.below HG.out (by repeat (first | (with_reducible first | exact HB.out | apply below_alloc | apply pw_below_drewN | apply below_drew1) | exact HB.out))); rintro e w49 ⟨rfl, hb⟩; have n0_ := Aside0.mk (below_step (by repeat (first | (with_reducible first | exact HB.out | apply below_alloc | apply pw_below_drewN | apply below_drew1) | exact HB.out)) hb); clear HB; have HB := n0_; clear n0_; (try clear hb); (try clear hb2); (try clear hk); (try clear hi)))
                              go_ret
                              exact ⟨by first | rfl | (simp [errW_none, errW_some] <;> rfl) | (exfalso; simp_all; done) | (simp [*, errW_none, errW_some] <;> rfl), by repeat (first | (with_reducible first | exact HB.out | apply below_alloc | apply pw_below_drewN | apply below_drew1) | exact HB.out)⟩
                      · replace c28 := Bool.eq_false_iff.mpr c28
                        subst c28
                        have H1 : (if t155 ≥ 1 then (if t157.isNone = true then (if (true != (decide (t155 ≤ (rd y158 t154)))) = true then (some false) else (if t155 ≤ (rd y158 t154) then (if t156 < t147 then (some false) else (if t156 ≥ t149 then (some false) else (if true = true then (some ((wrap64 (t149 - t147)) == x12_14)) else (some false)))) else ((pledgesee_Is.f none 103).bind fun t168 => (if t168 = true then (if true = true then (some ((wrap64 (t149 - t147)) == x12_14)) else (some false)) else (some false))))) else (if (false != (decide (t155 ≤ (rd y158 t154)))) = true then (some false) else (if t155 ≤ (rd y158 t154) then (if t156 < t147 then (some false) else (if t156 ≥ t149 then (some false) else (if true = true then (some ((wrap64 (t149 - t147)) == x12_14)) else (some false)))) else ((pledgesee_Is.f (some (t157.getD 0)) 103).bind fun t169 => (if t169 = true then (if true = true then (some ((wrap64 (t149 - t147)) == x12_14)) else (some false)) else (some false)))))) else (if t157.isNone = true then (some false) else ((pledgesee_Is.f (some (t157.getD 0)) 103).bind fun t171 => (if t171 = true then (if true = true then (some ((wrap64 (t149 - t147)) == x12_14)) else (some false)) else (some false))))) = some r := by rw [if_neg (show ¬ (false = true) by decide)] at H; exact H
                        clear H
                        have H := H1
                        clear H1
                        by_cases c50 : t155 ≥ 1
                        · rw [if_pos c50] at H
                          have c50b0 : decide (1 ≤ t155) = true := decide_eq_true c50
                          clear c50
                          rcases t157 with _ | q167
                          · have H1 : (if (true != (decide (t155 ≤ (rd y158 t154)))) = true then (some false) else (if t155 ≤ (rd y158 t154) then (if t156 < t147 then (some false) else (if t156 ≥ t149 then (some false) else (if true = true then (some ((wrap64 (t149 - t147)) == x12_14)) else (some false)))) else ((pledgesee_Is.f none 103).bind fun t168 => (if t168 = true then (if true = true then (some ((wrap64 (t149 - t147)) == x12_14)) else (some false)) else (some false))))) = some r := by rw [if_pos (show (none : Option Int).isNone = true by rfl)] at H; exact H
                            clear H
                            have H := H1
                            clear H1
                            try simp only [errW_none, errW_some]
                            by_cases c51 : (true != (decide (t155 ≤ (rd y158 t154)))) = true
                            · rw [if_pos c51] at H
                              have c51b0 : (true != (decide (t155 ≤ (rd y158 t154)))) = true := c51
                              (try (have c51b1 : decide (true = (decide (t155 ≤ (rd y158 t154)))) = false := by simpa using c51))
                              (try (have c51b2 : (true == (decide (t155 ≤ (rd y158 t154)))) = false := by simpa using c51))
                              (try (have c51b3 : ¬ (true = (decide (t155 ≤ (rd y158 t154)))) := by simpa using c51))
                              clear c51
                              obtain rfl := Option.some.inj H
                              go_wp2
                              go_ret
                              exact ⟨by first | rfl | (simp [errW_none, errW_some] <;> rfl) | (exfalso; simp_all; done) | (simp [*, errW_none, errW_some] <;> rfl), by repeat (first | (with_reducible first | exact HB.out | apply below_alloc | apply pw_below_drewN | apply below_drew1) | exact HB.out)⟩
                            · rw [if_neg c51] at H
                              have c51b0 : (true != (decide (t155 ≤ (rd y158 t154)))) = false := by simpa using c51
                              (try (have c51b1 : decide (true = (decide (t155 ≤ (rd y158 t154)))) = true := by simpa using c51))
                              (try (have c51b2 : (true == (decide (t155 ≤ (rd y158 t154)))) = true := by simpa using c51))
                              clear c51
                              by_cases c52 : t155 ≤ (rd y158 t154)
                              · rw [if_pos c52] at H
                                have c52b0 : decide (t155 ≤ (rd y158 t154)) = true := decide_eq_true c52
                                clear c52
                                by_cases c53 : t156 < t147
                                · rw [if_pos c53] at H
                                  have c53b0 : decide (t156 < t147) = true := decide_eq_true c53
                                  clear c53
                                  obtain rfl := Option.some.inj H
                                  go_wp2
                                  go_ret
                                  exact ⟨by first | rfl | (simp [errW_none, errW_some] <;> rfl) | (exfalso; simp_all; done) | (simp [*, errW_none, errW_some] <;> rfl), by repeat (first | (with_reducible first | exact HB.out | apply below_alloc | apply pw_below_drewN | apply below_drew1) | exact HB.out)⟩
                                · rw [if_neg c53] at H
                                  have c53b0 : decide (t156 < t147) = false := decide_eq_false c53
                                  clear c53
                                  by_cases c54 : t156 ≥ t149
                                  · rw [if_pos c54] at H
                                    have c54b0 : decide (t149 ≤ t156) = true := decide_eq_true c54
                                    clear c54
                                    obtain rfl := Option.some.inj H
                                    go_wp2
                                    go_ret
                                    exact ⟨by first | rfl | (simp [errW_none, errW_some] <;> rfl) | (exfalso; simp_all; done) | (simp [*, errW_none, errW_some] <;> rfl), by repeat (first | (with_reducible first | exact HB.out | apply below_alloc | apply pw_below_drewN | apply below_drew1) | exact HB.out)⟩
                                  · rw [if_neg c54] at H
                                    have c54b0 : decide (t149 ≤ t156) = false := decide_eq_false c54
                                    clear c54
                                    have H1 : (some ((wrap64 (t149 - t147)) == x12_14)) = some r := by first | (rw [if_pos rfl] at H; exact H) | (rw [if_pos trivial] at H; exact H)
                                    clear H
                                    have H := H1
                                    clear H1
                                    obtain rfl := Option.some.inj H
                                    go_wp2
                                    go_ret
                                    exact ⟨by first | rfl | (simp [errW_none, errW_some] <;> rfl) | (exfalso; simp_all; done) | (simp [*, errW_none, errW_some] <;> rfl), by repeat (first | (with_reducible first | exact HB.out | apply below_alloc | apply pw_below_drewN | apply below_drew1) | exact HB.out)⟩
                              · rw [if_neg c52] at H
                                have c52b0 : decide (t155 ≤ (rd y158 t154)) = false := decide_eq_false c52
                                clear c52
                                replace H := Option.bind_eq_some_iff.mp H
                                obtain ⟨t168, A550, H⟩ := H
                                replace H : (if t168 = true then (if true = true then (some ((wrap64 (t149 - t147)) == x12_14)) else (some false)) else (some false)) = some r := H
                                have A55 := Aside0.mk A550
                                clear A550
                                by_cases c56 : t168 = true
                                · subst c56
                                  have H1 : (if true = true then (some ((wrap64 (t149 - t147)) == x12_14)) else (some false)) = some r := by rw [if_pos rfl] at H; exact H
                                  clear H
                                  have H := H1
                                  clear H1
                                  have H1 : (some ((wrap64 (t149 - t147)) == x12_14)) = some r := by first | (rw [if_pos rfl] at H; exact H) | (rw [if_pos trivial] at H; exact H)
                                  clear H
                                  have H := H1
                                  clear H1
                                  obtain rfl := Option.some.inj H
                                  have CA55 := fun W hG_ => pledgesee_Is.calls none 103 true W hG_ A55.out
                                  try simp only [errW_none, errW_some] at CA55
                                  go_wp2_with (first | (go_at_call 14; (with_reducible refine (CA55 _ ?side1).mono ?_); (case side1 => exact GlobOK.below HG.out (by repeat (first | (with_reducible first | exact HB.out | apply below_alloc | apply pw_below_drewN | apply below_drew1) | exact HB.out))); rintro e w57 ⟨rfl, hb⟩; have n0_ := Aside0.mk (below_step (by repeat (first | (with_reducible first | exact HB.out | apply below_alloc | apply pw_below_drewN | apply below_drew1) | exact HB.out)) hb); clear HB; have HB := n0_; clear n0_; (try clear hb); (try clear hb2); (try clear hk); (try clear hi)))
                                  go_ret
                                  exact ⟨by first | rfl | (simp [errW_none, errW_some] <;> rfl) | (exfalso; simp_all; done) | (simp [*, errW_none, errW_some] <;> rfl), by repeat (first | (with_reducible first | exact HB.out | apply below_alloc | apply pw_below_drewN | apply below_drew1) | exact HB.out)⟩
                                · replace c56 := Bool.eq_false_iff.mpr c56
                                  subst c56
                                  have H1 : (some false) = some r := by rw [if_neg (show ¬ (false = true) by decide)] at H; exact H
                                  clear H
                                  have H := H1
                                  clear H1
                                  obtain rfl := Option.some.inj H
                                  have CA55 := fun W hG_ => pledgesee_Is.calls none 103 false W hG_ A55.out
                                  try simp only [errW_none, errW_some] at CA55
                                  go_wp2_with (first | (go_at_call 14; (with_reducible refine (CA55 _ ?side1).mono ?_); (case side1 => exact GlobOK.below HG.out (by repeat (first | (with_reducible first | exact HB.out | apply below_alloc | apply pw_below_drewN | apply below_drew1) | exact HB.out))); rintro e w58 ⟨rfl, hb⟩; have n0_ := Aside0.mk (below_step (by repeat (first | (with_reducible first | exact HB.out | apply below_alloc | apply pw_below_drewN | apply below_drew1) | exact HB.out)) hb); clear HB; have HB := n0_; clear n0_; (try clear hb); (try clear hb2); (try clear hk); (try clear hi)))
                                  go_ret
                                  exact ⟨by first | rfl | (simp [errW_none, errW_some] <;> rfl) | (exfalso; simp_all; done) | (simp [*, errW_none, errW_some] <;> rfl), by repeat (first | (with_reducible first | exact HB.out | apply below_alloc | apply pw_below_drewN | apply below_drew1) | exact HB.out)⟩
                          · have H1 : (if (false != (decide (t155 ≤ (rd y158 t154)))) = true then (some false) else (if t155 ≤ (rd y158 t154) then (if t156 < t147 then (some false) else (if t156 ≥ t149 then (some false) else (if true = true then (some ((wrap64 (t149 - t147)) == x12_14)) else (some false)))) else ((pledgesee_Is.f (some q167) 103).bind fun t169 => (if t169 = true then (if true = true then (some ((wrap64 (t149 - t147)) == x12_14)) else (some false)) else (some false))))) = some r := by rw [if_neg (show ¬ (some q167).isNone = true by simp)] at H; exact H
                            clear H
                            have H := H1
                            clear H1
                            try simp only [errW_none, errW_some]
                            by_cases c59 : (false != (decide (t155 ≤ (rd y158 t154)))) = true
                            · rw [if_pos c59] at H
                              have c59b0 : (false != (decide (t155 ≤ (rd y158 t154)))) = true := c59
                              (try (have c59b1 : decide (false = (decide (t155 ≤ (rd y158 t154)))) = false := by simpa using c59))
                              (try (have c59b2 : (false == (decide (t155 ≤ (rd y158 t154)))) = false := by simpa using c59))
                              (try (have c59b3 : ¬ (false = (decide (t155 ≤ (rd y158 t154)))) := by simpa using c59))
                              clear c59
                              obtain rfl := Option.some.inj H
                              go_wp2
                              go_ret
                              exact ⟨by first | rfl | (simp [errW_none, errW_some] <;> rfl) | (exfalso; simp_all; done) | (simp [*, errW_none, errW_some] <;> rfl), by repeat (first | (with_reducible first | exact HB.out | apply below_alloc | apply pw_below_drewN | apply below_drew1) | exact HB.out)⟩
                            · rw [if_neg c59] at H
                              have c59b0 : (false != (decide (t155 ≤ (rd y158 t154)))) = false := by simpa using c59
                              (try (have c59b1 : decide (false = (decide (t155 ≤ (rd y158 t154)))) = true := by simpa using c59))
                              (try (have c59b2 : (false == (decide (t155 ≤ (rd y158 t154)))) = true := by simpa using c59))
                              clear c59
                              by_cases c60 : t155 ≤ (rd y158 t154)
                              · rw [if_pos c60] at H
                                have c60b0 : decide (t155 ≤ (rd y158 t154)) = true := decide_eq_true c60
                                clear c60
                                by_cases c61 : t156 < t147
                                · rw [if_pos c61] at H
                                  have c61b0 : decide (t156 < t147) = true := decide_eq_true c61
                                  clear c61
                                  obtain rfl := Option.some.inj H
                                  go_wp2
                                  go_ret
                                  exact ⟨by first | rfl | (simp [errW_none, errW_some] <;> rfl) | (exfalso; simp_all; done) | (simp [*, errW_none, errW_some] <;> rfl), by repeat (first | (with_reducible first | exact HB.out | apply below_alloc | apply pw_below_drewN | apply below_drew1) | exact HB.out)⟩
                                · rw [if_neg c61] at H
                                  have c61b0 : decide (t156 < t147) = false := decide_eq_false c61
                                  clear c61
                                  by_cases c62 : t156 ≥ t149
                                  · rw [if_pos c62] at H
                                    have c62b0 : decide (t149 ≤ t156) = true := decide_eq_true c62
                                    clear c62
                                    obtain rfl := Option.some.inj H
                                    go_wp2
                                    go_ret
                                    exact ⟨by first | rfl | (simp [errW_none, errW_some] <;> rfl) | (exfalso; simp_all; done) | (simp [*, errW_none, errW_some] <;> rfl), by repeat (first | (with_reducible first | exact HB.out | apply below_alloc | apply pw_below_drewN | apply below_drew1) | exact HB.out)⟩
                                  · rw [if_neg c62] at H
                                    have c62b0 : decide (t149 ≤ t156) = false := decide_eq_false c62
                                    clear c62
                                    have H1 : (some ((wrap64 (t149 - t147)) == x12_14)) = some r := by first | (rw [if_pos rfl] at H; exact H) | (rw [if_pos trivial] at H; exact H)
                                    clear H
                                    have H := H1
                                    clear H1
                                    obtain rfl := Option.some.inj H
                                    go_wp2
                                    go_ret
                                    exact ⟨by first | rfl | (simp [errW_none, errW_some] <;> rfl) | (exfalso; simp_all; done) | (simp [*, errW_none, errW_some] <;> rfl), by repeat (first | (with_reducible first | exact HB.out | apply below_alloc | apply pw_below_drewN | apply below_drew1) | exact HB.out)⟩
                              · rw [if_neg c60] at H
                                have c60b0 : decide (t155 ≤ (rd y158 t154)) = false := decide_eq_false c60
                                clear c60
                                replace H := Option.bind_eq_some_iff.mp H
                                obtain ⟨t169, A630, H⟩ := H
                                replace H : (if t169 = true then (if true = true then (some ((wrap64 (t149 - t147)) == x12_14)) else (some false)) else (some false)) = some r := H
                                have A63 := Aside0.mk A630
                                clear A630
                                by_cases c64 : t169 = true
                                · subst c64
                                  have H1 : (if true = true then (some ((wrap64 (t149 - t147)) == x12_14)) else (some false)) = some r := by rw [if_pos rfl] at H; exact H
                                  clear H
                                  have H := H1
                                  clear H1
                                  have H1 : (some ((wrap64 (t149 - t147)) == x12_14)) = some r := by first | (rw [if_pos rfl] at H; exact H) | (rw [if_pos trivial] at H; exact H)
                                  clear H
                                  have H := H1
                                  clear H1
                                  obtain rfl := Option.some.inj H
                                  have CA63 := fun W hG_ => pledgesee_Is.calls (some q167) 103 true W hG_ A63.out
                                  try simp only [errW_none, errW_some] at CA63
                                  go_wp2_with (first | (go_at_call 14; (with_reducible refine (CA63 _ ?side1).mono ?_); (case side1 => exact GlobOK.below HG.out (by repeat (first | (with_reducible first | exact HB.out | apply below_alloc | apply pw_below_drewN | apply below_drew1) | exact HB.out))); rintro e w65 ⟨rfl, hb⟩; have n0_ := Aside0.mk (below_step (by repeat (first | (with_reducible first | exact HB.out | apply below_alloc | apply pw_below_drewN | apply below_drew1) | exact HB.out)) hb); clear HB; have HB := n0_; clear n0_; (try clear hb); (try clear hb2); (try clear hk); (try clear hi)))
                                  go_ret
                                  exact ⟨by first | rfl | (simp [errW_none, errW_some] <;> rfl) | (exfalso; simp_all; done) | (simp [*, errW_none, errW_some] <;> rfl), by repeat (first | (with_reducible first | exact HB.out | apply below_alloc | apply pw_below_drewN | apply below_drew1) | exact HB.out)⟩
                                · replace c64 := Bool.eq_false_iff.mpr c64
                                  subst c64
                                  have H1 : (some false) = some r := by rw [if_neg (show ¬ (false = true) by decide)] at H; exact H
                                  clear H
                                  have H := H1
                                  clear H1
                                  obtain rfl := Option.some.inj H
                                  have CA63 := fun W hG_ => pledgesee_Is.calls (some q167) 103 false W hG_ A63.out
                                  try simp only [errW_none, errW_some] at CA63
                                  go_wp2_with (first | (go_at_call 14; (with_reducible refine (CA63 _ ?side1).mono ?_); (case side1 => exact GlobOK.below HG.out (by repeat (first | (with_reducible first | exact HB.out | apply below_alloc | apply pw_below_drewN | apply below_drew1) | exact HB.out))); rintro e w66 ⟨rfl, hb⟩; have n0_ := Aside0.mk (below_step (by repeat (first | (with_reducible first | exact HB.out | apply below_alloc | apply pw_below_drewN | apply below_drew1) | exact HB.out)) hb); clear HB; have HB := n0_; clear n0_; (try clear hb); (try clear hb2); (try clear hk); (try clear hi)))
                                  go_ret
                                  exact ⟨by first | rfl | (simp [errW_none, errW_some] <;> rfl) | (exfalso; simp_all; done) | (simp [*, errW_none, errW_some] <;> rfl), by repeat (first | (with_reducible first | exact HB.out | apply below_alloc | apply pw_below_drewN | apply below_drew1) | exact HB.out)⟩
                        · rw [if_neg c50] at H
                          have c50b0 : decide (1 ≤ t155) = false := decide_eq_false c50
                          clear c50
                          rcases t157 with _ | q170
                          · have H1 : (some false) = some r := by rw [if_pos (show (none : Option Int).isNone = true by rfl)] at H; exact H
                            clear H
                            have H := H1
                            clear H1
                            try simp only [errW_none, errW_some]
                            obtain rfl := Option.some.inj H
                            go_wp2
                            go_ret
                            exact ⟨by first | rfl | (simp [errW_none, errW_some] <;> rfl) | (exfalso; simp_all; done) | (simp [*, errW_none, errW_some] <;> rfl), by repeat (first | (with_reducible first | exact HB.out | apply below_alloc | apply pw_below_drewN | apply below_drew1) | exact HB.out)⟩
                          · have H1 : ((pledgesee_Is.f (some q170) 103).bind fun t171 => (if t171 = true then (if true = true then (some ((wrap64 (t149 - t147)) == x12_14)) else (some false)) else (some false))) = some r := by rw [if_neg (show ¬ (some q170).isNone = true by simp)] at H; exact H
                            clear H
                            have H := H1
                            clear H1
                            try simp only [errW_none, errW_some]
                            replace H := Option.bind_eq_some_iff.mp H
                            obtain ⟨t171, A670, H⟩ := H
                            replace H : (if t171 = true then (if true = true then (some ((wrap64 (t149 - t147)) == x12_14)) else (some false)) else (some false)) = some r := H
                            have A67 := Aside0.mk A670
                            clear A670
                            by_cases c68 : t171 = true
                            · subst c68
                              have H1 : (if true = true then (some ((wrap64 (t149 - t147)) == x12_14)) else (some false)) = some r := by rw [if_pos rfl] at H; exact H
                              clear H
                              have H := H1
                              clear H1
                              have H1 : (some ((wrap64 (t149 - t147)) == x12_14)) = some r := by first | (rw [if_pos rfl] at H; exact H) | (rw [if_pos trivial] at H; exact H)
                              clear H
                              have H := H1
                              clear H1
                              obtain rfl := Option.some.inj H
                              have CA67 := fun W hG_ => pledgesee_Is.calls (some q170) 103 true W hG_ A67.out
                              try simp only [errW_none, errW_some] at CA67
                              go_wp2_with (first | (go_at_call 14; (with_reducible refine (CA67 _ ?side1).mono ?_); (case side1 => exact GlobOK.below HG.out (by repeat (first | (with_reducible first | exact HB.out | apply below_alloc | apply pw_below_drewN | apply below_drew1) | exact HB.out))); rintro e w69 ⟨rfl, hb⟩; have n0_ := Aside0.mk (below_step (by repeat (first | (with_reducible first | exact HB.out | apply below_alloc | apply pw_below_drewN | apply below_drew1) | exact HB.out)) hb); clear HB; have HB := n0_; clear n0_; (try clear hb); (try clear hb2); (try clear hk); (try clear hi)))
                              go_ret
                              exact ⟨by first | rfl | (simp [errW_none, errW_some] <;> rfl) | (exfalso; simp_all; done) | (simp [*, errW_none, errW_some] <;> rfl), by repeat (first | (with_reducible first | exact HB.out | apply below_alloc | apply pw_below_drewN | apply below_drew1) | exact HB.out)⟩
                            · replace c68 := Bool.eq_false_iff.mpr c68
                              subst c68
                              have H1 : (some false) = some r := by rw [if_neg (show ¬ (false = true) by decide)] at H; exact H
                              clear H
                              have H := H1
                              clear H1
                              obtain rfl := Option.some.inj H
                              have CA67 := fun W hG_ => pledgesee_Is.calls (some q170) 103 false W hG_ A67.out
                              try simp only [errW_none, errW_some] at CA67
                              go_wp2_with (first | (go_at_call 14; (with_reducible refine (CA67 _ ?side1).mono ?_); (case side1 => exact GlobOK.below HG.out (by repeat (first | (with_reducible first | exact HB.out | apply below_alloc | apply pw_below_drewN | apply below_drew1) | exact HB.out))); rintro e w70 ⟨rfl, hb⟩; have n0_ := Aside0.mk (below_step (by repeat (first | (with_reducible first | exact HB.out | apply below_alloc | apply pw_below_drewN | apply below_drew1) | exact HB.out)) hb); clear HB; have HB := n0_; clear n0_; (try clear hb); (try clear hb2); (try clear hk); (try clear hi)))
                              go_ret
                              exact ⟨by first | rfl | (simp [errW_none, errW_some] <;> rfl) | (exfalso; simp_all; done) | (simp [*, errW_none, errW_some] <;> rfl), by repeat (first | (with_reducible first | exact HB.out | apply below_alloc | apply pw_below_drewN | apply below_drew1) | exact HB.out)⟩
                · rw [if_neg c21] at H
                  exact absurd H (by simp)
              · rw [if_neg c20] at H
                exact absurd H (by simp)
  · replace c5 := Bool.eq_false_iff.mpr c5
    subst c5
    have H1 : (some false) = some r := by rw [if_neg (show ¬ (false = true) by decide)] at H; exact H
    clear H
    have H := H1
    clear H1
    obtain rfl := Option.some.inj H
    go_enter Tryd.func5, Tryd.ntmps5
    go_wp2_with (first | ((with_reducible refine gate_callee (f := 9) rfl ?_); refine goesL_ (some 17) rfl rfl Tryd.func9 (by kernel_rfl) rfl #[] rfl (by (try simp only [List.map_toArray, List.map_cons, List.map_nil]); first | done | rfl | (simp only [List.length_drop, List.length_take]; rfl)) ?_; (with_reducible refine (pledgelaw4_first.calls k  false _ ?side1 A4.out).mono ?_); (case side1 => exact GlobOK.below HG.out (by repeat (first | (with_reducible first | exact HB.out | apply below_alloc | apply pw_below_drewN | apply below_drew1) | exact HB.out))); rintro e w71 ⟨rfl, hb⟩; refine ⟨_, rfl, ?_⟩; have n0_ := Aside0.mk (below_step (by repeat (first | (with_reducible first | exact HB.out | apply below_alloc | apply pw_below_drewN | apply below_drew1) | exact HB.out)) hb); clear HB; have HB := n0_; clear n0_; (try clear hb); (try clear hb2); (try clear hk); (try clear hi)))
    go_ret
    exact ⟨by first | rfl | (simp [errW_none, errW_some] <;> rfl) | (exfalso; simp_all; done) | (simp [*, errW_none, errW_some] <;> rfl), by repeat (first | (with_reducible first | exact HB.out | apply below_alloc | apply pw_below_drewN | apply below_drew1) | exact HB.out)⟩

/-- The pure statement of pledgelaw4_DayYears: numbers and lists alone. -/
def pledgelaw4_DayYears.Pure : Prop := ∀ (a0 : Int) (a1 : Int) (a2 : Int), Rng .i64 a0 → Rng .i64 a1 → Rng .i64 a2 → ∃ k, pledgelaw4_DayYears.f k a0 a1 a2 = some true

end Go.Proofs.YtobgpafdebiphaaDoor.EDayYears
