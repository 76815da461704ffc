/- The functions that the law comes to, as plain functions, and for each a proof that the Go code comes to just these answers. Written by a program of this claim. Conditions: each theorem bears its own. -/
import Derived.Test.YtobgpafdebiphaaDoorEDayBackx0
import Derived.Test.YtobgpafdebiphaaDoorEDayBackx1
import Derived.Test.YtobgpafdebiphaaDoorEDayBackx2
namespace Go.Proofs.YtobgpafdebiphaaDoor.EDayBack
open Go.RowKit Go.Proofs.YtobgpafdebiphaaDoorW.PrintWords Go.Proofs.YtobgpafdebiphaaDoorW.PrintLast Go.Proofs.YtobgpafdebiphaaDoorW.PrintMore Go.Proofs.YtobgpafdebiphaaDoorW.PrintOpen
attribute [local go_sem] max2_int min2_int max_two min_two max_three min_three max_four min_four   -- for this text's walks alone
set_option linter.unusedVariables false
set_option linter.unusedSimpArgs false

/-! ### pledgelaw4_DayBack: function 7 -/
def pledgelaw4_DayBack.j0 : Nat → Int → Bool → Bool → Int → Int → Int → Int → Int → Int → Option (Bool)
  | 0, _, _, _, _, _, _, _, _, _ => none
  | k + 1, x0, x3, x47, x126000, x126001, x126002, x131000, x131001, x131002 => if x47 = true then (some false) else (if x131000 > x126000 then (if x131002 = 1 then (if x126002 ≥ 28 then (if x3 = true then ((day_Weekday.f (wrap64 (x0 + 1))).bind fun t136 => ((day_Weekday.f x0).bind fun t137 => (some (t136 == (Int.tmod (wrap64 (t137 + 1)) 7))))) else (some false)) else (if x131002 = (wrap64 (x126002 + 1)) then (if x3 = true then (if x131001 = x126001 then ((day_Weekday.f (wrap64 (x0 + 1))).bind fun t138 => ((day_Weekday.f x0).bind fun t139 => (some (t138 == (Int.tmod (wrap64 (t139 + 1)) 7))))) else (some false)) else (some false)) else (if x3 = true then (some false) else (some false)))) else (if x131002 = (wrap64 (x126002 + 1)) then (if x3 = true then (if x131001 = x126001 then ((day_Weekday.f (wrap64 (x0 + 1))).bind fun t140 => ((day_Weekday.f x0).bind fun t141 => (some (t140 == (Int.tmod (wrap64 (t141 + 1)) 7))))) else (some false)) else (some false)) else (if x3 = true then (some false) else (some false)))) else (if x131000 = x126000 then (if x131001 > x126001 then (if x131002 = 1 then (if x126002 ≥ 28 then (if x3 = true then ((day_Weekday.f (wrap64 (x0 + 1))).bind fun t142 => ((day_Weekday.f x0).bind fun t143 => (some (t142 == (Int.tmod (wrap64 (t143 + 1)) 7))))) else (some false)) else (if x131002 = (wrap64 (x126002 + 1)) then (if x3 = true then (if x131001 = x126001 then ((day_Weekday.f (wrap64 (x0 + 1))).bind fun t144 => ((day_Weekday.f x0).bind fun t145 => (some (t144 == (Int.tmod (wrap64 (t145 + 1)) 7))))) else (some false)) else (some false)) else (if x3 = true then (some false) else (some false)))) else (if x131002 = (wrap64 (x126002 + 1)) then (if x3 = true then (if x131001 = x126001 then ((day_Weekday.f (wrap64 (x0 + 1))).bind fun t146 => ((day_Weekday.f x0).bind fun t147 => (some (t146 == (Int.tmod (wrap64 (t147 + 1)) 7))))) else (some false)) else (some false)) else (if x3 = true then (some false) else (some false)))) else (if x131001 = x126001 then (if x131002 = 1 then (if x126002 ≥ 28 then (if x3 = true then (if x131002 = (wrap64 (x126002 + 1)) then ((day_Weekday.f (wrap64 (x0 + 1))).bind fun t148 => ((day_Weekday.f x0).bind fun t149 => (some (t148 == (Int.tmod (wrap64 (t149 + 1)) 7))))) else (some false)) else (some false)) else (if x131002 = (wrap64 (x126002 + 1)) then (if x3 = true then ((day_Weekday.f (wrap64 (x0 + 1))).bind fun t150 => ((day_Weekday.f x0).bind fun t151 => (some (t150 == (Int.tmod (wrap64 (t151 + 1)) 7))))) else (some false)) else (if x3 = true then (some false) else (some false)))) else (if x131002 = (wrap64 (x126002 + 1)) then (if x3 = true then ((day_Weekday.f (wrap64 (x0 + 1))).bind fun t152 => ((day_Weekday.f x0).bind fun t153 => (some (t152 == (Int.tmod (wrap64 (t153 + 1)) 7))))) else (some false)) else (if x3 = true then (some false) else (some false)))) else (if x131002 = 1 then (if x126002 ≥ 28 then (if x3 = true then (some false) else (some false)) else (if x131002 = (wrap64 (x126002 + 1)) then (if x3 = true then (some false) else (some false)) else (if x3 = true then (some false) else (some false)))) else (if x131002 = (wrap64 (x126002 + 1)) then (if x3 = true then (some false) else (some false)) else (if x3 = true then (some false) else (some false)))))) else (if x131002 = 1 then (if x126002 ≥ 28 then (if x3 = true then (some false) else (some false)) else (if x131002 = (wrap64 (x126002 + 1)) then (if x3 = true then (some false) else (some false)) else (if x3 = true then (some false) else (some false)))) else (if x131002 = (wrap64 (x126002 + 1)) then (if x3 = true then (some false) else (some false)) else (if x3 = true then (some false) else (some false))))))
def pledgelaw4_DayBack.f (k : Nat) (a0 : Int) : Option (Bool) := (pledgelaw4_first.f k).bind fun t119 => (if t119 = true then ((pledgeworld_Number.f a0 40000).bind fun t120 => ((day_At.f k t120).bind fun bt121 => ((day_At.f k (wrap64 (t120 + 1))).bind fun bt126 => ((day_Of.f k bt121.1 bt121.2.1 bt121.2.2.1).bind fun bt131 => (if bt121.2.2.2.isNone = true then (if bt126.2.2.2.isNone = true then (if bt131.2.isNone = true then (pledgelaw4_DayBack.j0 k t120 t119 (bt131.1 != t120) bt121.1 bt121.2.1 bt121.2.2.1 bt126.1 bt126.2.1 bt126.2.2.1) else (pledgelaw4_DayBack.j0 k t120 t119 true bt121.1 bt121.2.1 bt121.2.2.1 bt126.1 bt126.2.1 bt126.2.2.1)) else (pledgelaw4_DayBack.j0 k t120 t119 true bt121.1 bt121.2.1 bt121.2.2.1 bt126.1 bt126.2.1 bt126.2.2.1)) else (pledgelaw4_DayBack.j0 k t120 t119 true bt121.1 bt121.2.1 bt121.2.2.1 bt126.1 bt126.2.1 bt126.2.2.1)))))) else (some false))
theorem pledgelaw4_DayBack.mono_l : ∀ k, (∀ y0 y1 y2 y3 y4 y5 y6 y7 y8, LeO (pledgelaw4_DayBack.j0 k y0 y1 y2 y3 y4 y5 y6 y7 y8) (pledgelaw4_DayBack.j0 (k + 1) y0 y1 y2 y3 y4 y5 y6 y7 y8))
  | 0 => fun _ _ _ _ _ _ _ _ _ r h => by simp [pledgelaw4_DayBack.j0] at h
  | k + 1 => by
    have ih0 := pledgelaw4_DayBack.mono_l k
    · intro y0 y1 y2 y3 y4 y5 y6 y7 y8
      unfold pledgelaw4_DayBack.j0
      repeat' first
      | (with_reducible exact ih0 _ _ _ _ _ _ _ _ _)
      | (with_reducible exact day_At.mono _ _)
      | (with_reducible exact day_Of.mono _ _ _ _)
      | (with_reducible exact pledgelaw4_first.mono _)
      | (with_reducible exact LeO.refl _)
      | (with_reducible exact LeO.none _)
      | (with_reducible refine LeO.ite ?_ ?_)
      | (with_reducible refine LeO.bind ?_ (fun _ => ?_))
      | exact ih0 _ _ _ _ _ _ _ _ _
      | exact day_At.mono _ _
      | exact day_Of.mono _ _ _ _
      | exact pledgelaw4_first.mono _
      | exact LeO.none _
      | refine LeO.ite ?_ ?_
      | refine LeO.bind ?_ (fun _ => ?_)
theorem pledgelaw4_DayBack.mono : ∀ a0 k, LeO (pledgelaw4_DayBack.f k a0) (pledgelaw4_DayBack.f (k + 1) a0) := by
  intro a0 k
  have ih0 := pledgelaw4_DayBack.mono_l k
  unfold pledgelaw4_DayBack.f
  repeat' first
      | (with_reducible exact ih0 _ _ _ _ _ _ _ _ _)
      | (with_reducible exact day_At.mono _ _)
      | (with_reducible exact day_Of.mono _ _ _ _)
      | (with_reducible exact pledgelaw4_first.mono _)
      | (with_reducible exact LeO.refl _)
      | (with_reducible exact LeO.none _)
      | (with_reducible refine LeO.ite ?_ ?_)
      | (with_reducible refine LeO.bind ?_ (fun _ => ?_))
      | exact ih0 _ _ _ _ _ _ _ _ _
      | exact day_At.mono _ _
      | exact day_Of.mono _ _ _ _
      | exact pledgelaw4_first.mono _
      | exact LeO.none _
      | refine LeO.ite ?_ ?_
      | refine LeO.bind ?_ (fun _ => ?_)
set_option maxHeartbeats 8000000 in
set_option maxRecDepth 100000 in
theorem pledgelaw4_DayBack.calls [Inhabited (Int → Addr)] (k : Nat) (a0 : Int) (r : Bool) (w : World) (hG : GlobOK w) (h : pledgelaw4_DayBack.f k a0 = some r) :
    Calls Tryd.prog 7 #[.int .i64 a0] w fun e w' => e = .returned (.bool r) ∧ Below w.heap.size w w' := by
  have hu32 := Tryd.underlying32
  have hu28 := Tryd.underlying28
  have hu61 := Tryd.underlying61
  have HG := Aside0.mk hG
  clear hG
  have HB := Aside0.mk (Below.refl w.heap.size w)
  have H : ((pledgelaw4_first.f k).bind fun t119 => (if t119 = true then ((pledgeworld_Number.f a0 40000).bind fun t120 => ((day_At.f k t120).bind fun bt121 => ((day_At.f k (wrap64 (t120 + 1))).bind fun bt126 => ((day_Of.f k bt121.1 bt121.2.1 bt121.2.2.1).bind fun bt131 => (if bt121.2.2.2.isNone = true then (if bt126.2.2.2.isNone = true then (if bt131.2.isNone = true then (pledgelaw4_DayBack.j0 k t120 t119 (bt131.1 != t120) bt121.1 bt121.2.1 bt121.2.2.1 bt126.1 bt126.2.1 bt126.2.2.1) else (pledgelaw4_DayBack.j0 k t120 t119 true bt121.1 bt121.2.1 bt121.2.2.1 bt126.1 bt126.2.1 bt126.2.2.1)) else (pledgelaw4_DayBack.j0 k t120 t119 true bt121.1 bt121.2.1 bt121.2.2.1 bt126.1 bt126.2.1 bt126.2.2.1)) else (pledgelaw4_DayBack.j0 k t120 t119 true bt121.1 bt121.2.1 bt121.2.2.1 bt126.1 bt126.2.1 bt126.2.2.1)))))) else (some false))) = some r := h
  clear h
  replace H := Option.bind_eq_some_iff.mp H
  obtain ⟨t119, A20, H⟩ := H
  replace H : (if t119 = true then ((pledgeworld_Number.f a0 40000).bind fun t120 => ((day_At.f k t120).bind fun bt121 => ((day_At.f k (wrap64 (t120 + 1))).bind fun bt126 => ((day_Of.f k bt121.1 bt121.2.1 bt121.2.2.1).bind fun bt131 => (if bt121.2.2.2.isNone = true then (if bt126.2.2.2.isNone = true then (if bt131.2.isNone = true then (pledgelaw4_DayBack.j0 k t120 t119 (bt131.1 != t120) bt121.1 bt121.2.1 bt121.2.2.1 bt126.1 bt126.2.1 bt126.2.2.1) else (pledgelaw4_DayBack.j0 k t120 t119 true bt121.1 bt121.2.1 bt121.2.2.1 bt126.1 bt126.2.1 bt126.2.2.1)) else (pledgelaw4_DayBack.j0 k t120 t119 true bt121.1 bt121.2.1 bt121.2.2.1 bt126.1 bt126.2.1 bt126.2.2.1)) else (pledgelaw4_DayBack.j0 k t120 t119 true bt121.1 bt121.2.1 bt121.2.2.1 bt126.1 bt126.2.1 bt126.2.2.1)))))) else (some false)) = some r := H
  have A2 := Aside0.mk A20
  clear A20
  by_cases c3 : t119 = true
  · subst c3
    have H1 : ((pledgeworld_Number.f a0 40000).bind fun t120 => ((day_At.f k t120).bind fun bt121 => ((day_At.f k (wrap64 (t120 + 1))).bind fun bt126 => ((day_Of.f k bt121.1 bt121.2.1 bt121.2.2.1).bind fun bt131 => (if bt121.2.2.2.isNone = true then (if bt126.2.2.2.isNone = true then (if bt131.2.isNone = true then (pledgelaw4_DayBack.j0 k t120 true (bt131.1 != t120) bt121.1 bt121.2.1 bt121.2.2.1 bt126.1 bt126.2.1 bt126.2.2.1) else (pledgelaw4_DayBack.j0 k t120 true true bt121.1 bt121.2.1 bt121.2.2.1 bt126.1 bt126.2.1 bt126.2.2.1)) else (pledgelaw4_DayBack.j0 k t120 true true bt121.1 bt121.2.1 bt121.2.2.1 bt126.1 bt126.2.1 bt126.2.2.1)) else (pledgelaw4_DayBack.j0 k t120 true true bt121.1 bt121.2.1 bt121.2.2.1 bt126.1 bt126.2.1 bt126.2.2.1)))))) = some r := by rw [if_pos rfl] at H; exact H
    clear H
    have H := H1
    clear H1
    replace H := Option.bind_eq_some_iff.mp H
    obtain ⟨t120, A40, H⟩ := H
    replace H : ((day_At.f k t120).bind fun bt121 => ((day_At.f k (wrap64 (t120 + 1))).bind fun bt126 => ((day_Of.f k bt121.1 bt121.2.1 bt121.2.2.1).bind fun bt131 => (if bt121.2.2.2.isNone = true then (if bt126.2.2.2.isNone = true then (if bt131.2.isNone = true then (pledgelaw4_DayBack.j0 k t120 true (bt131.1 != t120) bt121.1 bt121.2.1 bt121.2.2.1 bt126.1 bt126.2.1 bt126.2.2.1) else (pledgelaw4_DayBack.j0 k t120 true true bt121.1 bt121.2.1 bt121.2.2.1 bt126.1 bt126.2.1 bt126.2.2.1)) else (pledgelaw4_DayBack.j0 k t120 true true bt121.1 bt121.2.1 bt121.2.2.1 bt126.1 bt126.2.1 bt126.2.2.1)) else (pledgelaw4_DayBack.j0 k t120 true true bt121.1 bt121.2.1 bt121.2.2.1 bt126.1 bt126.2.1 bt126.2.2.1))))) = some r := H
    have A4 := Aside0.mk A40
    clear A40
    replace H := Option.bind_eq_some_iff.mp H
    obtain ⟨⟨t121, t122, t123, t124⟩, A50, H⟩ := H
    replace H : ((day_At.f k (wrap64 (t120 + 1))).bind fun bt126 => ((day_Of.f k t121 t122 t123).bind fun bt131 => (if t124.isNone = true then (if bt126.2.2.2.isNone = true then (if bt131.2.isNone = true then (pledgelaw4_DayBack.j0 k t120 true (bt131.1 != t120) t121 t122 t123 bt126.1 bt126.2.1 bt126.2.2.1) else (pledgelaw4_DayBack.j0 k t120 true true t121 t122 t123 bt126.1 bt126.2.1 bt126.2.2.1)) else (pledgelaw4_DayBack.j0 k t120 true true t121 t122 t123 bt126.1 bt126.2.1 bt126.2.2.1)) else (pledgelaw4_DayBack.j0 k t120 true true t121 t122 t123 bt126.1 bt126.2.1 bt126.2.2.1)))) = some r := H
    have A5 := Aside0.mk A50
    clear A50
    replace H := Option.bind_eq_some_iff.mp H
    obtain ⟨⟨t126, t127, t128, t129⟩, A60, H⟩ := H
    replace H : ((day_Of.f k t121 t122 t123).bind fun bt131 => (if t124.isNone = true then (if t129.isNone = true then (if bt131.2.isNone = true then (pledgelaw4_DayBack.j0 k t120 true (bt131.1 != t120) t121 t122 t123 t126 t127 t128) else (pledgelaw4_DayBack.j0 k t120 true true t121 t122 t123 t126 t127 t128)) else (pledgelaw4_DayBack.j0 k t120 true true t121 t122 t123 t126 t127 t128)) else (pledgelaw4_DayBack.j0 k t120 true true t121 t122 t123 t126 t127 t128))) = some r := H
    have A6 := Aside0.mk A60
    clear A60
    replace H := Option.bind_eq_some_iff.mp H
    obtain ⟨⟨t131, t132⟩, A70, H⟩ := H
    replace H : (if t124.isNone = true then (if t129.isNone = true then (if t132.isNone = true then (pledgelaw4_DayBack.j0 k t120 true (t131 != t120) t121 t122 t123 t126 t127 t128) else (pledgelaw4_DayBack.j0 k t120 true true t121 t122 t123 t126 t127 t128)) else (pledgelaw4_DayBack.j0 k t120 true true t121 t122 t123 t126 t127 t128)) else (pledgelaw4_DayBack.j0 k t120 true true t121 t122 t123 t126 t127 t128)) = some r := H
    have A7 := Aside0.mk A70
    clear A70
    have HC8 := Aside0.mk H
    clear H
    go_enter Tryd.func7, Tryd.ntmps7
    go_upto_region 8 with (first | ((with_reducible refine gate_callee (f := 9) rfl ?_); refine goesL_ (some 12) rfl rfl Tryd.func9 (by kernel_rfl) rfl #[] rfl (by (try simp only [List.map_toArray, List.map_cons, List.map_nil]); first | done | rfl | (simp only [List.length_drop, List.length_take]; rfl)) ?_; (with_reducible refine (pledgelaw4_first.calls k  true _ ?side1 A2.out).mono ?_); (case side1 => exact GlobOK.below HG.out (by repeat (first | (with_reducible first | exact HB.out | apply below_alloc | apply pw_below_drewN | apply below_drew1) | exact HB.out))); rintro e w9 ⟨rfl, hb⟩; refine ⟨_, rfl, ?_⟩; have n0_ := Aside0.mk (below_step (by repeat (first | (with_reducible first | exact HB.out | apply below_alloc | apply pw_below_drewN | apply below_drew1) | exact HB.out)) hb); clear HB; have HB := n0_; clear n0_; (try clear hb); (try clear hb2); (try clear hk); (try clear hi)) | ((with_reducible refine gate_callee (f := 10) rfl ?_); refine goesL_ (some 16) rfl rfl Tryd.func10 (by kernel_rfl) rfl #[.int .i64 a0, .int .i64 40000] rfl (by (try simp only [List.map_toArray, List.map_cons, List.map_nil]); first | done | rfl | (simp only [List.length_drop, List.length_take]; rfl)) ?_; (with_reducible refine (pledgeworld_Number.calls a0 40000 t120 _ A4.out).mono ?_); rintro e w' ⟨rfl, ⟨nd, rfl⟩⟩; refine ⟨_, rfl, ?_⟩; (try (rw [drewN_self w9]; generalize hq_ : World.drewN w9 _ = w9; have n0_ : Aside0 (Below w.heap.size w w9) := ⟨by rw [← hq_]; exact (by repeat (first | (with_reducible first | exact HB.out | apply below_alloc | apply pw_below_drewN | apply below_drew1) | exact HB.out))⟩; clear HB hq_; have HB := n0_; clear n0_))) | ((with_reducible refine gate_callee (f := 17) rfl ?_); refine goesL_ (some 19) rfl rfl Tryd.func17 (by kernel_rfl) rfl #[.int .i64 t120] rfl (by (try simp only [List.map_toArray, List.map_cons, List.map_nil]); first | done | rfl | (simp only [List.length_drop, List.length_take]; rfl)) ?_; (with_reducible refine (day_At.calls k t120 t121 t122 t123 t124 _ ?side1 A5.out).mono ?_); (case side1 => exact GlobOK.below HG.out (by repeat (first | (with_reducible first | exact HB.out | apply below_alloc | apply pw_below_drewN | apply below_drew1) | exact HB.out))); rintro e w10 ⟨rfl, hb⟩; refine ⟨_, rfl, ?_⟩; have n0_ := Aside0.mk (below_step (by repeat (first | (with_reducible first | exact HB.out | apply below_alloc | apply pw_below_drewN | apply below_drew1) | exact HB.out)) hb); clear HB; have HB := n0_; clear n0_; (try clear hb); (try clear hb2); (try clear hk); (try clear hi); (try simp only [errW_none, errW_some])) | ((with_reducible refine gate_dst (N := 4) rfl ?_); refine box_event ?hg (N := 4) ?hd (cs := #[.int .i64 0, .int .i64 0, .int .i64 0]) (t := 32) ?hr ?_; (case hd => rfl); (case hg => rfl); (case hr => first | (go_simp; done) | (go_simp; rfl)); intro gb125 hg w11 hbox hb; have n0_ := Aside0.mk (below_step (by repeat (first | (with_reducible first | exact HB.out | apply below_alloc | apply pw_below_drewN | apply below_drew1) | exact HB.out)) hb); have n1_ := Aside0.mk (hbox); have n2_ := Aside0.mk ((by rw [hg]; exact (below_size (by repeat (first | (with_reducible first | exact HB.out | apply below_alloc | apply pw_below_drewN | apply below_drew1) | exact HB.out))) : w.heap.size ≤ gb125)); have n3_ := Aside0.mk ((by rw [hg]; exact (below_size (by repeat (first | (with_reducible first | exact HB.out | apply below_alloc | apply pw_below_drewN | apply below_drew1) | exact HB.out))) : w.heap.size ≤ gb125)); clear HB; have HB := n0_; have BK125 := n1_; have GW125 := n2_; have GE125 := n3_; clear n0_ n1_ n2_ n3_; clear hb hbox hg; have hcz12_0 : w11.cell? ⟨gb125, 0, none⟩ = some (.int .i64 0) := (blk_cell BK125.out 0).trans rfl; have hcz12_1 : w11.cell? ⟨gb125, 1, none⟩ = some (.int .i64 0) := (blk_cell BK125.out 1).trans rfl; have hcz12_2 : w11.cell? ⟨gb125, 2, none⟩ = some (.int .i64 0) := (blk_cell BK125.out 2).trans rfl; have hfz12_0 := blk_frozen BK125.out 0; have hfz12_1 := blk_frozen BK125.out 1; have hfz12_2 := blk_frozen BK125.out 2) | ((with_reducible refine gate_callee (f := 17) rfl ?_); refine goesL_ (some 25) rfl rfl Tryd.func17 (by kernel_rfl) rfl #[.int .i64 (wrap64 (t120 + 1))] rfl (by (try simp only [List.map_toArray, List.map_cons, List.map_nil]); first | done | rfl | (simp only [List.length_drop, List.length_take]; rfl)) ?_; (with_reducible refine (day_At.calls k (wrap64 (t120 + 1)) t126 t127 t128 t129 _ ?side1 A6.out).mono ?_); (case side1 => exact GlobOK.below HG.out (by repeat (first | (with_reducible first | exact HB.out | apply below_alloc | apply pw_below_drewN | apply below_drew1 | refine below_set ?_ GE125.out) | exact HB.out))); rintro e w13 ⟨rfl, hb⟩; refine ⟨_, rfl, ?_⟩; have n0_ := Aside0.mk (blk_below (g := gb125) (o := .cells #[.int .i64 t121, .int .i64 t122, .int .i64 t123] 32 (0, 0)) (by (with_reducible repeat (first | refine blk_drewN ?_ _ | refine blk_drew ?_ | refine blk_alloc ?_ _)); refine blk_put (cs := #[.int .i64 t121, .int .i64 t122, .int .i64 0]) ?_ 2 _ rfl; (with_reducible repeat (first | refine blk_drewN ?_ _ | refine blk_drew ?_ | refine blk_alloc ?_ _)); refine blk_put (cs := #[.int .i64 t121, .int .i64 0, .int .i64 0]) ?_ 1 _ rfl; (with_reducible repeat (first | refine blk_drewN ?_ _ | refine blk_drew ?_ | refine blk_alloc ?_ _)); refine blk_put (cs := #[.int .i64 0, .int .i64 0, .int .i64 0]) ?_ 0 _ rfl; (with_reducible repeat (first | refine blk_drewN ?_ _ | refine blk_drew ?_ | refine blk_alloc ?_ _)); exact BK125.out) hb); have n1_ := Aside0.mk (below_step (by repeat (first | (with_reducible first | exact HB.out | apply below_alloc | apply pw_below_drewN | apply below_drew1 | refine below_set ?_ GE125.out) | exact HB.out)) hb); clear BK125; clear HB; have BK125 := n0_; have HB := n1_; clear n0_ n1_; (try clear hb); (try clear hb2); (try clear hk); (try clear hi); (try simp only [errW_none, errW_some])) | ((with_reducible refine gate_dst (N := 6) rfl ?_); refine box_event ?hg (N := 6) ?hd (cs := #[.int .i64 0, .int .i64 0, .int .i64 0]) (t := 32) ?hr ?_; (case hd => rfl); (case hg => rfl); (case hr => first | (go_simp; done) | (go_simp; rfl)); intro gb130 hg w14 hbox hb; have n0_ := Aside0.mk (blk_below (g := gb125) (o := .cells #[.int .i64 t121, .int .i64 t122, .int .i64 t123] 32 (0, 0)) (by (with_reducible repeat (first | refine blk_drewN ?_ _ | refine blk_drew ?_ | refine blk_alloc ?_ _)); exact BK125.out) hb); have n1_ := Aside0.mk (below_step (by repeat (first | (with_reducible first | exact HB.out | apply below_alloc | apply pw_below_drewN | apply below_drew1 | refine below_set ?_ GE125.out) | exact HB.out)) hb); have n2_ := Aside0.mk (hbox); have n3_ := Aside0.mk ((by rw [hg]; exact (below_size (by repeat (first | (with_reducible first | exact HB.out | apply below_alloc | apply pw_below_drewN | apply below_drew1 | refine below_set ?_ GE125.out) | exact HB.out))) : w.heap.size ≤ gb130)); have n4_ := Aside0.mk ((by rw [hg]; exact (below_size (by repeat (first | (with_reducible first | exact HB.out | apply below_alloc | apply pw_below_drewN | apply below_drew1 | refine below_set ?_ GE125.out) | exact HB.out))) : w.heap.size ≤ gb130)); have n5_ := Aside0.mk ((by rw [hg]; exact Nat.ne_of_lt (blk_lt (g := gb125) (o := .cells #[.int .i64 t121, .int .i64 t122, .int .i64 t123] 32 (0, 0)) (by (with_reducible repeat (first | refine blk_drewN ?_ _ | refine blk_drew ?_ | refine blk_alloc ?_ _)); exact BK125.out)) : gb125 ≠ gb130)); have n6_ := Aside0.mk ((by rw [hg]; exact Nat.ne_of_gt (blk_lt (g := gb125) (o := .cells #[.int .i64 t121, .int .i64 t122, .int .i64 t123] 32 (0, 0)) (by (with_reducible repeat (first | refine blk_drewN ?_ _ | refine blk_drew ?_ | refine blk_alloc ?_ _)); exact BK125.out)) : gb130 ≠ gb125)); clear BK125; clear HB; have BK125 := n0_; have HB := n1_; have BK130 := n2_; have GW130 := n3_; have GE130 := n4_; have NB125_130 := n5_; have NB130_125 := n6_; clear n0_ n1_ n2_ n3_ n4_ n5_ n6_; clear hb hbox hg; have hnb15 := NB130_125.out; have hnc15 := NB125_130.out; have hcz16_0 : w14.cell? ⟨gb130, 0, none⟩ = some (.int .i64 0) := (blk_cell BK130.out 0).trans rfl; have hcz16_1 : w14.cell? ⟨gb130, 1, none⟩ = some (.int .i64 0) := (blk_cell BK130.out 1).trans rfl; have hcz16_2 : w14.cell? ⟨gb130, 2, none⟩ = some (.int .i64 0) := (blk_cell BK130.out 2).trans rfl; have hfz16_0 := blk_frozen BK130.out 0; have hfz16_1 := blk_frozen BK130.out 1; have hfz16_2 := blk_frozen BK130.out 2; have hcz17_0 : w14.cell? ⟨gb125, 0, none⟩ = some (.int .i64 t121) := (blk_cell BK125.out 0).trans rfl; have hcz17_1 : w14.cell? ⟨gb125, 1, none⟩ = some (.int .i64 t122) := (blk_cell BK125.out 1).trans rfl; have hcz17_2 : w14.cell? ⟨gb125, 2, none⟩ = some (.int .i64 t123) := (blk_cell BK125.out 2).trans rfl; have hfz17_0 := blk_frozen BK125.out 0; have hfz17_1 := blk_frozen BK125.out 1; have hfz17_2 := blk_frozen BK125.out 2) | ((with_reducible refine gate_callee (f := 13) rfl ?_); refine goesL_ (some 30) rfl rfl Tryd.func13 (by kernel_rfl) rfl #[.agg #[.int .i64 t121, .int .i64 t122, .int .i64 t123]] rfl (by (try simp only [List.map_toArray, List.map_cons, List.map_nil]); first | done | rfl | (simp only [List.length_drop, List.length_take]; rfl)) ?_; (with_reducible refine (day_Of.calls k t121 t122 t123 t131 t132 _ ?side1 A7.out).mono ?_); (case side1 => exact GlobOK.below HG.out (by repeat (first | (with_reducible first | exact HB.out | apply below_alloc | apply pw_below_drewN | apply below_drew1 | refine below_set ?_ GE125.out | refine below_set ?_ GE130.out) | exact HB.out))); rintro e w18 ⟨rfl, hb⟩; refine ⟨_, rfl, ?_⟩; have n0_ := Aside0.mk (blk_below (g := gb125) (o := .cells #[.int .i64 t121, .int .i64 t122, .int .i64 t123] 32 (0, 0)) (by (with_reducible repeat (first | refine blk_drewN ?_ _ | refine blk_drew ?_ | refine blk_alloc ?_ _)); refine blk_far ?_ NB125_130.out _; (with_reducible repeat (first | refine blk_drewN ?_ _ | refine blk_drew ?_ | refine blk_alloc ?_ _)); refine blk_far ?_ NB125_130.out _; (with_reducible repeat (first | refine blk_drewN ?_ _ | refine blk_drew ?_ | refine blk_alloc ?_ _)); refine blk_far ?_ NB125_130.out _; (with_reducible repeat (first | refine blk_drewN ?_ _ | refine blk_drew ?_ | refine blk_alloc ?_ _)); exact BK125.out) hb); have n1_ := Aside0.mk (blk_below (g := gb130) (o := .cells #[.int .i64 t126, .int .i64 t127, .int .i64 t128] 32 (0, 0)) (by (with_reducible repeat (first | refine blk_drewN ?_ _ | refine blk_drew ?_ | refine blk_alloc ?_ _)); refine blk_put (cs := #[.int .i64 t126, .int .i64 t127, .int .i64 0]) ?_ 2 _ rfl; (with_reducible repeat (first | refine blk_drewN ?_ _ | refine blk_drew ?_ | refine blk_alloc ?_ _)); refine blk_put (cs := #[.int .i64 t126, .int .i64 0, .int .i64 0]) ?_ 1 _ rfl; (with_reducible repeat (first | refine blk_drewN ?_ _ | refine blk_drew ?_ | refine blk_alloc ?_ _)); refine blk_put (cs := #[.int .i64 0, .int .i64 0, .int .i64 0]) ?_ 0 _ rfl; (with_reducible repeat (first | refine blk_drewN ?_ _ | refine blk_drew ?_ | refine blk_alloc ?_ _)); exact BK130.out) hb); have n2_ := Aside0.mk (below_step (by repeat (first | (with_reducible first | exact HB.out | apply below_alloc | apply pw_below_drewN | apply below_drew1 | refine below_set ?_ GE125.out | refine below_set ?_ GE130.out) | exact HB.out)) hb); clear BK125; clear BK130; clear HB; have BK125 := n0_; have BK130 := n1_; have HB := n2_; clear n0_ n1_ n2_; (try clear hb); (try clear hb2); (try clear hk); (try clear hi); (try simp only [errW_none, errW_some])))
    (try simp only [Act.put, List.setIfInBounds_toArray, List.set_cons_zero, List.set_cons_succ])
    go_cut [47] (fun v47 wc => ∃ (kq : Nat) (x47_7 : Bool), v47 = .bool x47_7 ∧ Aside0 (pledgelaw4_DayBack.j0 kq t120 true x47_7 t121 t122 t123 t126 t127 t128 = some r) ∧ Aside0 (kq ≤ k) ∧ Aside0 (wc.heap[gb125]? = some (.cells #[.int .i64 t121, .int .i64 t122, .int .i64 t123] 32 (0, 0))) ∧ Aside0 (wc.heap[gb130]? = some (.cells #[.int .i64 t126, .int .i64 t127, .int .i64 t128] 32 (0, 0))) ∧ Aside0 (Below w.heap.size w wc))
    case first =>
      have H := HC8.out
      clear HC8
      rcases t124 with _ | q133
      · have H1 : (if t129.isNone = true then (if t132.isNone = true then (pledgelaw4_DayBack.j0 k t120 true (t131 != t120) t121 t122 t123 t126 t127 t128) else (pledgelaw4_DayBack.j0 k t120 true true t121 t122 t123 t126 t127 t128)) else (pledgelaw4_DayBack.j0 k t120 true true t121 t122 t123 t126 t127 t128)) = some r := by rw [if_pos (show (none : Option Int).isNone = true by rfl)] at H; exact H
        clear H
        have H := H1
        clear H1
        try simp only [errW_none, errW_some]
        rcases t129 with _ | q134
        · have H1 : (if t132.isNone = true then (pledgelaw4_DayBack.j0 k t120 true (t131 != t120) t121 t122 t123 t126 t127 t128) else (pledgelaw4_DayBack.j0 k t120 true true t121 t122 t123 t126 t127 t128)) = some r := by rw [if_pos (show (none : Option Int).isNone = true by rfl)] at H; exact H
          clear H
          have H := H1
          clear H1
          try simp only [errW_none, errW_some]
          rcases t132 with _ | q135
          · have H1 : (pledgelaw4_DayBack.j0 k t120 true (t131 != t120) t121 t122 t123 t126 t127 t128) = some r := by rw [if_pos (show (none : Option Int).isNone = true by rfl)] at H; exact H
            clear H
            have H := H1
            clear H1
            try simp only [errW_none, errW_some]
            have H' := Aside0.mk H
            clear H
            go_wp2
            go_meet
            case rel => exact ⟨_, ((t131 != t120)), (by first | rfl | (simp; done) | (simp [*]; done)), H', ⟨by first | omega | exact Nat.le_refl _⟩, ⟨by (with_reducible repeat (first | refine blk_drewN ?_ _ | refine blk_drew ?_ | refine blk_alloc ?_ _)); exact BK125.out⟩, ⟨by (with_reducible repeat (first | refine blk_drewN ?_ _ | refine blk_drew ?_ | refine blk_alloc ?_ _)); exact BK130.out⟩, ⟨by repeat (first | (with_reducible first | exact HB.out | apply below_alloc | apply pw_below_drewN | apply below_drew1 | refine below_set ?_ GE125.out | refine below_set ?_ GE130.out) | exact HB.out)⟩⟩
          · have H1 : (pledgelaw4_DayBack.j0 k t120 true true t121 t122 t123 t126 t127 t128) = some r := by rw [if_neg (show ¬ (some q135).isNone = true by simp)] at H; exact H
            clear H
            have H := H1
            clear H1
            try simp only [errW_none, errW_some]
            have H' := Aside0.mk H
            clear H
            go_wp2
            go_meet
            case rel => exact ⟨_, (true), (by first | rfl | (simp; done) | (simp [*]; done)), H', ⟨by first | omega | exact Nat.le_refl _⟩, ⟨by (with_reducible repeat (first | refine blk_drewN ?_ _ | refine blk_drew ?_ | refine blk_alloc ?_ _)); exact BK125.out⟩, ⟨by (with_reducible repeat (first | refine blk_drewN ?_ _ | refine blk_drew ?_ | refine blk_alloc ?_ _)); exact BK130.out⟩, ⟨by repeat (first | (with_reducible first | exact HB.out | apply below_alloc | apply pw_below_drewN | apply below_drew1 | refine below_set ?_ GE125.out | refine below_set ?_ GE130.out) | exact HB.out)⟩⟩
        · have H1 : (pledgelaw4_DayBack.j0 k t120 true true t121 t122 t123 t126 t127 t128) = some r := by rw [if_neg (show ¬ (some q134).isNone = true by simp)] at H; exact H
          clear H
          have H := H1
          clear H1
          try simp only [errW_none, errW_some]
          have H' := Aside0.mk H
          clear H
          go_wp2
          go_meet
          case rel => exact ⟨_, (true), (by first | rfl | (simp; done) | (simp [*]; done)), H', ⟨by first | omega | exact Nat.le_refl _⟩, ⟨by (with_reducible repeat (first | refine blk_drewN ?_ _ | refine blk_drew ?_ | refine blk_alloc ?_ _)); exact BK125.out⟩, ⟨by (with_reducible repeat (first | refine blk_drewN ?_ _ | refine blk_drew ?_ | refine blk_alloc ?_ _)); exact BK130.out⟩, ⟨by repeat (first | (with_reducible first | exact HB.out | apply below_alloc | apply pw_below_drewN | apply below_drew1 | refine below_set ?_ GE125.out | refine below_set ?_ GE130.out) | exact HB.out)⟩⟩
      · have H1 : (pledgelaw4_DayBack.j0 k t120 true true t121 t122 t123 t126 t127 t128) = some r := by rw [if_neg (show ¬ (some q133).isNone = true by simp)] at H; exact H
        clear H
        have H := H1
        clear H1
        try simp only [errW_none, errW_some]
        have H' := Aside0.mk H
        clear H
        go_wp2
        go_meet
        case rel => exact ⟨_, (true), (by first | rfl | (simp; done) | (simp [*]; done)), H', ⟨by first | omega | exact Nat.le_refl _⟩, ⟨by (with_reducible repeat (first | refine blk_drewN ?_ _ | refine blk_drew ?_ | refine blk_alloc ?_ _)); exact BK125.out⟩, ⟨by (with_reducible repeat (first | refine blk_drewN ?_ _ | refine blk_drew ?_ | refine blk_alloc ?_ _)); exact BK130.out⟩, ⟨by repeat (first | (with_reducible first | exact HB.out | apply below_alloc | apply pw_below_drewN | apply below_drew1 | refine below_set ?_ GE125.out | refine below_set ?_ GE130.out) | exact HB.out)⟩⟩
    case rest =>
      clear HC8
      try clear c1
      try clear q1
      try clear p2
      try clear c3
      try clear p6
      try clear c7
      try clear c9
      try clear c10
      try clear c13
      try clear q13
      try clear c15
      try clear c17
      try clear hcz12_0
      try clear hcz12_1
      try clear hcz12_2
      try clear hcz16_0
      try clear hcz16_1
      try clear hcz16_2
      try clear hcz17_0
      try clear hcz17_1
      try clear hcz17_2
      try clear hfz12_0
      try clear hfz12_1
      try clear hfz12_2
      try clear hfz16_0
      try clear hfz16_1
      try clear hfz16_2
      try clear hfz17_0
      try clear hfz17_1
      try clear hfz17_2
      try clear q133
      try clear q134
      try clear q135
      obtain ⟨kq, x47_7, rfl, HA, HJ7, BK125, BK130, HB⟩ := hcut
      cases kq with
      | zero => exact absurd HA.out (by simp [pledgelaw4_DayBack.j0])
      | succ kj7 =>
        have H := HA.out
        clear HA
        simp only [pledgelaw4_DayBack.j0] at H
        by_cases c19 : x47_7 = true
        · subst c19
          have H1 : (some false) = some r := by rw [if_pos rfl] at H; exact H
          clear H
          have H := H1
          clear H1
          obtain rfl := Option.some.inj H
          go_wp2
          go_ret
          exact ⟨by first | rfl | (simp [errW_none, errW_some] <;> rfl) | (simp [*, errW_none, errW_some] <;> rfl), by repeat (first | (with_reducible first | exact HB.out | apply below_alloc | apply pw_below_drewN | apply below_drew1 | refine below_set ?_ GE125.out | refine below_set ?_ GE130.out) | exact HB.out)⟩
        · replace c19 := Bool.eq_false_iff.mpr c19
          subst c19
          have H1 : (if t126 > t121 then (if t128 = 1 then (if t123 ≥ 28 then (if true = true then ((day_Weekday.f (wrap64 (t120 + 1))).bind fun t136 => ((day_Weekday.f t120).bind fun t137 => (some (t136 == (Int.tmod (wrap64 (t137 + 1)) 7))))) else (some false)) else (if t128 = (wrap64 (t123 + 1)) then (if true = true then (if t127 = t122 then ((day_Weekday.f (wrap64 (t120 + 1))).bind fun t138 => ((day_Weekday.f t120).bind fun t139 => (some (t138 == (Int.tmod (wrap64 (t139 + 1)) 7))))) else (some false)) else (some false)) else (if true = true then (some false) else (some false)))) else (if t128 = (wrap64 (t123 + 1)) then (if true = true then (if t127 = t122 then ((day_Weekday.f (wrap64 (t120 + 1))).bind fun t140 => ((day_Weekday.f t120).bind fun t141 => (some (t140 == (Int.tmod (wrap64 (t141 + 1)) 7))))) else (some false)) else (some false)) else (if true = true then (some false) else (some false)))) else (if t126 = t121 then (if t127 > t122 then (if t128 = 1 then (if t123 ≥ 28 then (if true = true then ((day_Weekday.f (wrap64 (t120 + 1))).bind fun t142 => ((day_Weekday.f t120).bind fun t143 => (some (t142 == (Int.tmod (wrap64 (t143 + 1)) 7))))) else (some false)) else (if t128 = (wrap64 (t123 + 1)) then (if true = true then (if t127 = t122 then ((day_Weekday.f (wrap64 (t120 + 1))).bind fun t144 => ((day_Weekday.f t120).bind fun t145 => (some (t144 == (Int.tmod (wrap64 (t145 + 1)) 7))))) else (some false)) else (some false)) else (if true = true then (some false) else (some false)))) else (if t128 = (wrap64 (t123 + 1)) then (if true = true then (if t127 = t122 then ((day_Weekday.f (wrap64 (t120 + 1))).bind fun t146 => ((day_Weekday.f t120).bind fun t147 => (some (t146 == (Int.tmod (wrap64 (t147 + 1)) 7))))) else (some false)) else (some false)) else (if true = true then (some false) else (some false)))) else (if t127 = t122 then (if t128 = 1 then (if t123 ≥ 28 then (if true = true then (if t128 = (wrap64 (t123 + 1)) then ((day_Weekday.f (wrap64 (t120 + 1))).bind fun t148 => ((day_Weekday.f t120).bind fun t149 => (some (t148 == (Int.tmod (wrap64 (t149 + 1)) 7))))) else (some false)) else (some false)) else (if t128 = (wrap64 (t123 + 1)) then (if true = true then ((day_Weekday.f (wrap64 (t120 + 1))).bind fun t150 => ((day_Weekday.f t120).bind fun t151 => (some (t150 == (Int.tmod (wrap64 (t151 + 1)) 7))))) else (some false)) else (if true = true then (some false) else (some false)))) else (if t128 = (wrap64 (t123 + 1)) then (if true = true then ((day_Weekday.f (wrap64 (t120 + 1))).bind fun t152 => ((day_Weekday.f t120).bind fun t153 => (some (t152 == (Int.tmod (wrap64 (t153 + 1)) 7))))) else (some false)) else (if true = true then (some false) else (some false)))) else (if t128 = 1 then (if t123 ≥ 28 then (if true = true then (some false) else (some false)) else (if t128 = (wrap64 (t123 + 1)) then (if true = true then (some false) else (some false)) else (if true = true then (some false) else (some false)))) else (if t128 = (wrap64 (t123 + 1)) then (if true = true then (some false) else (some false)) else (if true = true then (some false) else (some false)))))) else (if t128 = 1 then (if t123 ≥ 28 then (if true = true then (some false) else (some false)) else (if t128 = (wrap64 (t123 + 1)) then (if true = true then (some false) else (some false)) else (if true = true then (some false) else (some false)))) else (if t128 = (wrap64 (t123 + 1)) then (if true = true then (some false) else (some false)) else (if true = true then (some false) else (some false)))))) = some r := by rw [if_neg (show ¬ (false = true) by decide)] at H; exact H
          clear H
          have H := H1
          clear H1
          by_cases c20 : t126 > t121
          · rw [if_pos c20] at H
            have c20b0 : decide (t121 < t126) = true := decide_eq_true c20
            clear c20
            by_cases c21 : t128 = 1
            · rw [if_pos c21] at H
              have c21b0 : (t128 == 1) = true := beq_iff_eq.mpr c21
              have c21b1 : (t128 != 1) = false := bne_eq_false_iff_eq.mpr c21
              clear c21
              by_cases c22 : t123 ≥ 28
              · rw [if_pos c22] at H
                have c22b0 : decide (28 ≤ t123) = true := decide_eq_true c22
                clear c22
                have H1 : ((day_Weekday.f (wrap64 (t120 + 1))).bind fun t136 => ((day_Weekday.f t120).bind fun t137 => (some (t136 == (Int.tmod (wrap64 (t137 + 1)) 7))))) = some r := by rw [if_pos rfl] at H; exact H
                clear H
                have H := H1
                clear H1
                replace H := Option.bind_eq_some_iff.mp H
                obtain ⟨t136, A230, H⟩ := H
                replace H : ((day_Weekday.f t120).bind fun t137 => (some (t136 == (Int.tmod (wrap64 (t137 + 1)) 7)))) = some r := H
                have A23 := Aside0.mk A230
                clear A230
                replace H := Option.bind_eq_some_iff.mp H
                obtain ⟨t137, A240, H⟩ := H
                replace H : (some (t136 == (Int.tmod (wrap64 (t137 + 1)) 7))) = some r := H
                have A24 := Aside0.mk A240
                clear A240
                obtain rfl := Option.some.inj H
                have hnb25 := NB130_125.out
                have hnc25 := NB125_130.out
                have hcz26_0 : wc.cell? ⟨gb130, 0, none⟩ = some (.int .i64 t126) := (blk_cell BK130.out 0).trans rfl
                have hcz26_1 : wc.cell? ⟨gb130, 1, none⟩ = some (.int .i64 t127) := (blk_cell BK130.out 1).trans rfl
                have hcz26_2 : wc.cell? ⟨gb130, 2, none⟩ = some (.int .i64 t128) := (blk_cell BK130.out 2).trans rfl
                have hfz26_0 := blk_frozen BK130.out 0
                have hfz26_1 := blk_frozen BK130.out 1
                have hfz26_2 := blk_frozen BK130.out 2
                have hcz27_0 : wc.cell? ⟨gb125, 0, none⟩ = some (.int .i64 t121) := (blk_cell BK125.out 0).trans rfl
                have hcz27_1 : wc.cell? ⟨gb125, 1, none⟩ = some (.int .i64 t122) := (blk_cell BK125.out 1).trans rfl
                have hcz27_2 : wc.cell? ⟨gb125, 2, none⟩ = some (.int .i64 t123) := (blk_cell BK125.out 2).trans rfl
                have hfz27_0 := blk_frozen BK125.out 0
                have hfz27_1 := blk_frozen BK125.out 1
                have hfz27_2 := blk_frozen BK125.out 2
                go_wp2_with (first | (go_at_call 12; (with_reducible refine (day_Weekday.calls (wrap64 (t120 + 1)) t136 _ A23.out).mono ?_); rintro e w' ⟨rfl, ⟨nd, rfl⟩⟩) | (go_at_call 12; (with_reducible refine (day_Weekday.calls t120 t137 _ A24.out).mono ?_); rintro e w' ⟨rfl, ⟨nd, rfl⟩⟩))
                go_ret
                exact ⟨by first | rfl | (simp [errW_none, errW_some] <;> rfl) | (simp [*, errW_none, errW_some] <;> rfl), by repeat (first | (with_reducible first | exact HB.out | apply below_alloc | apply pw_below_drewN | apply below_drew1 | refine below_set ?_ GE125.out | refine below_set ?_ GE130.out) | exact HB.out)⟩
              · rw [if_neg c22] at H
                have c22b0 : decide (28 ≤ t123) = false := decide_eq_false c22
                clear c22
                by_cases c28 : t128 = (wrap64 (t123 + 1))
                · rw [if_pos c28] at H
                  have c28b0 : (t128 == (wrap64 (t123 + 1))) = true := beq_iff_eq.mpr c28
                  have c28b1 : (t128 != (wrap64 (t123 + 1))) = false := bne_eq_false_iff_eq.mpr c28
                  clear c28
                  have H1 : (if t127 = t122 then ((day_Weekday.f (wrap64 (t120 + 1))).bind fun t138 => ((day_Weekday.f t120).bind fun t139 => (some (t138 == (Int.tmod (wrap64 (t139 + 1)) 7))))) else (some false)) = some r := by rw [if_pos rfl] at H; exact H
                  clear H
                  have H := H1
                  clear H1
                  by_cases c29 : t127 = t122
                  · rw [if_pos c29] at H
                    have c29b0 : (t127 == t122) = true := beq_iff_eq.mpr c29
                    have c29b1 : (t127 != t122) = false := bne_eq_false_iff_eq.mpr c29
                    clear c29
                    replace H := Option.bind_eq_some_iff.mp H
                    obtain ⟨t138, A300, H⟩ := H
                    replace H : ((day_Weekday.f t120).bind fun t139 => (some (t138 == (Int.tmod (wrap64 (t139 + 1)) 7)))) = some r := H
                    have A30 := Aside0.mk A300
                    clear A300
                    replace H := Option.bind_eq_some_iff.mp H
                    obtain ⟨t139, A310, H⟩ := H
                    replace H : (some (t138 == (Int.tmod (wrap64 (t139 + 1)) 7))) = some r := H
                    have A31 := Aside0.mk A310
                    clear A310
                    obtain rfl := Option.some.inj H
                    have hnb32 := NB130_125.out
                    have hnc32 := NB125_130.out
                    have hcz33_0 : wc.cell? ⟨gb130, 0, none⟩ = some (.int .i64 t126) := (blk_cell BK130.out 0).trans rfl
                    have hcz33_1 : wc.cell? ⟨gb130, 1, none⟩ = some (.int .i64 t127) := (blk_cell BK130.out 1).trans rfl
                    have hcz33_2 : wc.cell? ⟨gb130, 2, none⟩ = some (.int .i64 t128) := (blk_cell BK130.out 2).trans rfl
                    have hfz33_0 := blk_frozen BK130.out 0
                    have hfz33_1 := blk_frozen BK130.out 1
                    have hfz33_2 := blk_frozen BK130.out 2
                    have hcz34_0 : wc.cell? ⟨gb125, 0, none⟩ = some (.int .i64 t121) := (blk_cell BK125.out 0).trans rfl
                    have hcz34_1 : wc.cell? ⟨gb125, 1, none⟩ = some (.int .i64 t122) := (blk_cell BK125.out 1).trans rfl
                    have hcz34_2 : wc.cell? ⟨gb125, 2, none⟩ = some (.int .i64 t123) := (blk_cell BK125.out 2).trans rfl
                    have hfz34_0 := blk_frozen BK125.out 0
                    have hfz34_1 := blk_frozen BK125.out 1
                    have hfz34_2 := blk_frozen BK125.out 2
                    go_wp2_with (first | (go_at_call 12; (with_reducible refine (day_Weekday.calls (wrap64 (t120 + 1)) t138 _ A30.out).mono ?_); rintro e w' ⟨rfl, ⟨nd, rfl⟩⟩) | (go_at_call 12; (with_reducible refine (day_Weekday.calls t120 t139 _ A31.out).mono ?_); rintro e w' ⟨rfl, ⟨nd, rfl⟩⟩))
                    go_ret
                    exact ⟨by first | rfl | (simp [errW_none, errW_some] <;> rfl) | (simp [*, errW_none, errW_some] <;> rfl), by repeat (first | (with_reducible first | exact HB.out | apply below_alloc | apply pw_below_drewN | apply below_drew1 | refine below_set ?_ GE125.out | refine below_set ?_ GE130.out) | exact HB.out)⟩
                  · rw [if_neg c29] at H
                    have c29b0 : (t127 == t122) = false := beq_eq_false_iff_ne.mpr c29
                    have c29b1 : (t127 != t122) = true := bne_iff_ne.mpr c29
                    obtain rfl := Option.some.inj H
                    have hnb35 := NB130_125.out
                    have hnc35 := NB125_130.out
                    have hcz36_0 : wc.cell? ⟨gb130, 0, none⟩ = some (.int .i64 t126) := (blk_cell BK130.out 0).trans rfl
                    have hcz36_1 : wc.cell? ⟨gb130, 1, none⟩ = some (.int .i64 t127) := (blk_cell BK130.out 1).trans rfl
                    have hcz36_2 : wc.cell? ⟨gb130, 2, none⟩ = some (.int .i64 t128) := (blk_cell BK130.out 2).trans rfl
                    have hfz36_0 := blk_frozen BK130.out 0
                    have hfz36_1 := blk_frozen BK130.out 1
                    have hfz36_2 := blk_frozen BK130.out 2
                    have hcz37_0 : wc.cell? ⟨gb125, 0, none⟩ = some (.int .i64 t121) := (blk_cell BK125.out 0).trans rfl
                    have hcz37_1 : wc.cell? ⟨gb125, 1, none⟩ = some (.int .i64 t122) := (blk_cell BK125.out 1).trans rfl
                    have hcz37_2 : wc.cell? ⟨gb125, 2, none⟩ = some (.int .i64 t123) := (blk_cell BK125.out 2).trans rfl
                    have hfz37_0 := blk_frozen BK125.out 0
                    have hfz37_1 := blk_frozen BK125.out 1
                    have hfz37_2 := blk_frozen BK125.out 2
                    go_wp2
                    go_ret
                    exact ⟨by first | rfl | (simp [errW_none, errW_some] <;> rfl) | (simp [*, errW_none, errW_some] <;> rfl), by repeat (first | (with_reducible first | exact HB.out | apply below_alloc | apply pw_below_drewN | apply below_drew1 | refine below_set ?_ GE125.out | refine below_set ?_ GE130.out) | exact HB.out)⟩
                · rw [if_neg c28] at H
                  have c28b0 : (t128 == (wrap64 (t123 + 1))) = false := beq_eq_false_iff_ne.mpr c28
                  have c28b1 : (t128 != (wrap64 (t123 + 1))) = true := bne_iff_ne.mpr c28
                  have H1 : (some false) = some r := by rw [if_pos rfl] at H; exact H
                  clear H
                  have H := H1
                  clear H1
                  obtain rfl := Option.some.inj H
                  have hnb38 := NB130_125.out
                  have hnc38 := NB125_130.out
                  have hcz39_0 : wc.cell? ⟨gb130, 0, none⟩ = some (.int .i64 t126) := (blk_cell BK130.out 0).trans rfl
                  have hcz39_1 : wc.cell? ⟨gb130, 1, none⟩ = some (.int .i64 t127) := (blk_cell BK130.out 1).trans rfl
                  have hcz39_2 : wc.cell? ⟨gb130, 2, none⟩ = some (.int .i64 t128) := (blk_cell BK130.out 2).trans rfl
                  have hfz39_0 := blk_frozen BK130.out 0
                  have hfz39_1 := blk_frozen BK130.out 1
                  have hfz39_2 := blk_frozen BK130.out 2
                  have hcz40_0 : wc.cell? ⟨gb125, 0, none⟩ = some (.int .i64 t121) := (blk_cell BK125.out 0).trans rfl
                  have hcz40_1 : wc.cell? ⟨gb125, 1, none⟩ = some (.int .i64 t122) := (blk_cell BK125.out 1).trans rfl
                  have hcz40_2 : wc.cell? ⟨gb125, 2, none⟩ = some (.int .i64 t123) := (blk_cell BK125.out 2).trans rfl
                  have hfz40_0 := blk_frozen BK125.out 0
                  have hfz40_1 := blk_frozen BK125.out 1
                  have hfz40_2 := blk_frozen BK125.out 2
                  go_wp2
                  go_ret
                  exact ⟨by first | rfl | (simp [errW_none, errW_some] <;> rfl) | (simp [*, errW_none, errW_some] <;> rfl), by repeat (first | (with_reducible first | exact HB.out | apply below_alloc | apply pw_below_drewN | apply below_drew1 | refine below_set ?_ GE125.out | refine below_set ?_ GE130.out) | exact HB.out)⟩
            · rw [if_neg c21] at H
              have c21b0 : (t128 == 1) = false := beq_eq_false_iff_ne.mpr c21
              have c21b1 : (t128 != 1) = true := bne_iff_ne.mpr c21
              by_cases c41 : t128 = (wrap64 (t123 + 1))
              · rw [if_pos c41] at H
                have c41b0 : (t128 == (wrap64 (t123 + 1))) = true := beq_iff_eq.mpr c41
                have c41b1 : (t128 != (wrap64 (t123 + 1))) = false := bne_eq_false_iff_eq.mpr c41
                clear c41
                have H1 : (if t127 = t122 then ((day_Weekday.f (wrap64 (t120 + 1))).bind fun t140 => ((day_Weekday.f t120).bind fun t141 => (some (t140 == (Int.tmod (wrap64 (t141 + 1)) 7))))) else (some false)) = some r := by rw [if_pos rfl] at H; exact H
                clear H
                have H := H1
                clear H1
                by_cases c42 : t127 = t122
                · rw [if_pos c42] at H
                  have c42b0 : (t127 == t122) = true := beq_iff_eq.mpr c42
                  have c42b1 : (t127 != t122) = false := bne_eq_false_iff_eq.mpr c42
                  clear c42
                  replace H := Option.bind_eq_some_iff.mp H
                  obtain ⟨t140, A430, H⟩ := H
                  replace H : ((day_Weekday.f t120).bind fun t141 => (some (t140 == (Int.tmod (wrap64 (t141 + 1)) 7)))) = some r := H
                  have A43 := Aside0.mk A430
                  clear A430
                  replace H := Option.bind_eq_some_iff.mp H
                  obtain ⟨t141, A440, H⟩ := H
                  replace H : (some (t140 == (Int.tmod (wrap64 (t141 + 1)) 7))) = some r := H
                  have A44 := Aside0.mk A440
                  clear A440
                  obtain rfl := Option.some.inj H
                  have hnb45 := NB130_125.out
                  have hnc45 := NB125_130.out
                  have hcz46_0 : wc.cell? ⟨gb130, 0, none⟩ = some (.int .i64 t126) := (blk_cell BK130.out 0).trans rfl
                  have hcz46_1 : wc.cell? ⟨gb130, 1, none⟩ = some (.int .i64 t127) := (blk_cell BK130.out 1).trans rfl
                  have hcz46_2 : wc.cell? ⟨gb130, 2, none⟩ = some (.int .i64 t128) := (blk_cell BK130.out 2).trans rfl
                  have hfz46_0 := blk_frozen BK130.out 0
                  have hfz46_1 := blk_frozen BK130.out 1
                  have hfz46_2 := blk_frozen BK130.out 2
                  have hcz47_0 : wc.cell? ⟨gb125, 0, none⟩ = some (.int .i64 t121) := (blk_cell BK125.out 0).trans rfl
                  have hcz47_1 : wc.cell? ⟨gb125, 1, none⟩ = some (.int .i64 t122) := (blk_cell BK125.out 1).trans rfl
                  have hcz47_2 : wc.cell? ⟨gb125, 2, none⟩ = some (.int .i64 t123) := (blk_cell BK125.out 2).trans rfl
                  have hfz47_0 := blk_frozen BK125.out 0
                  have hfz47_1 := blk_frozen BK125.out 1
                  have hfz47_2 := blk_frozen BK125.out 2
                  go_wp2_with (first | (go_at_call 12; (with_reducible refine (day_Weekday.calls (wrap64 (t120 + 1)) t140 _ A43.out).mono ?_); rintro e w' ⟨rfl, ⟨nd, rfl⟩⟩) | (go_at_call 12; (with_reducible refine (day_Weekday.calls t120 t141 _ A44.out).mono ?_); rintro e w' ⟨rfl, ⟨nd, rfl⟩⟩))
                  go_ret
                  exact ⟨by first | rfl | (simp [errW_none, errW_some] <;> rfl) | (simp [*, errW_none, errW_some] <;> rfl), by repeat (first | (with_reducible first | exact HB.out | apply below_alloc | apply pw_below_drewN | apply below_drew1 | refine below_set ?_ GE125.out | refine below_set ?_ GE130.out) | exact HB.out)⟩
                · rw [if_neg c42] at H
                  have c42b0 : (t127 == t122) = false := beq_eq_false_iff_ne.mpr c42
                  have c42b1 : (t127 != t122) = true := bne_iff_ne.mpr c42
                  obtain rfl := Option.some.inj H
                  have hnb48 := NB130_125.out
                  have hnc48 := NB125_130.out
                  have hcz49_0 : wc.cell? ⟨gb130, 0, none⟩ = some (.int .i64 t126) := (blk_cell BK130.out 0).trans rfl
                  have hcz49_1 : wc.cell? ⟨gb130, 1, none⟩ = some (.int .i64 t127) := (blk_cell BK130.out 1).trans rfl
                  have hcz49_2 : wc.cell? ⟨gb130, 2, none⟩ = some (.int .i64 t128) := (blk_cell BK130.out 2).trans rfl
                  have hfz49_0 := blk_frozen BK130.out 0
                  have hfz49_1 := blk_frozen BK130.out 1
                  have hfz49_2 := blk_frozen BK130.out 2
                  have hcz50_0 : wc.cell? ⟨gb125, 0, none⟩ = some (.int .i64 t121) := (blk_cell BK125.out 0).trans rfl
                  have hcz50_1 : wc.cell? ⟨gb125, 1, none⟩ = some (.int .i64 t122) := (blk_cell BK125.out 1).trans rfl
                  have hcz50_2 : wc.cell? ⟨gb125, 2, none⟩ = some (.int .i64 t123) := (blk_cell BK125.out 2).trans rfl
                  have hfz50_0 := blk_frozen BK125.out 0
                  have hfz50_1 := blk_frozen BK125.out 1
                  have hfz50_2 := blk_frozen BK125.out 2
                  go_wp2
                  go_ret
                  exact ⟨by first | rfl | (simp [errW_none, errW_some] <;> rfl) | (simp [*, errW_none, errW_some] <;> rfl), by repeat (first | (with_reducible first | exact HB.out | apply below_alloc | apply pw_below_drewN | apply below_drew1 | refine below_set ?_ GE125.out | refine below_set ?_ GE130.out) | exact HB.out)⟩
              · rw [if_neg c41] at H
                have c41b0 : (t128 == (wrap64 (t123 + 1))) = false := beq_eq_false_iff_ne.mpr c41
                have c41b1 : (t128 != (wrap64 (t123 + 1))) = true := bne_iff_ne.mpr c41
                have H1 : (some false) = some r := by rw [if_pos rfl] at H; exact H
                clear H
                have H := H1
                clear H1
                obtain rfl := Option.some.inj H
                have hnb51 := NB130_125.out
                have hnc51 := NB125_130.out
                have hcz52_0 : wc.cell? ⟨gb130, 0, none⟩ = some (.int .i64 t126) := (blk_cell BK130.out 0).trans rfl
                have hcz52_1 : wc.cell? ⟨gb130, 1, none⟩ = some (.int .i64 t127) := (blk_cell BK130.out 1).trans rfl
                have hcz52_2 : wc.cell? ⟨gb130, 2, none⟩ = some (.int .i64 t128) := (blk_cell BK130.out 2).trans rfl
                have hfz52_0 := blk_frozen BK130.out 0
                have hfz52_1 := blk_frozen BK130.out 1
                have hfz52_2 := blk_frozen BK130.out 2
                have hcz53_0 : wc.cell? ⟨gb125, 0, none⟩ = some (.int .i64 t121) := (blk_cell BK125.out 0).trans rfl
                have hcz53_1 : wc.cell? ⟨gb125, 1, none⟩ = some (.int .i64 t122) := (blk_cell BK125.out 1).trans rfl
                have hcz53_2 : wc.cell? ⟨gb125, 2, none⟩ = some (.int .i64 t123) := (blk_cell BK125.out 2).trans rfl
                have hfz53_0 := blk_frozen BK125.out 0
                have hfz53_1 := blk_frozen BK125.out 1
                have hfz53_2 := blk_frozen BK125.out 2
                go_wp2
                go_ret
                exact ⟨by first | rfl | (simp [errW_none, errW_some] <;> rfl) | (simp [*, errW_none, errW_some] <;> rfl), by repeat (first | (with_reducible first | exact HB.out | apply below_alloc | apply pw_below_drewN | apply below_drew1 | refine below_set ?_ GE125.out | refine below_set ?_ GE130.out) | exact HB.out)⟩
          · rw [if_neg c20] at H
            have c20b0 : decide (t121 < t126) = false := decide_eq_false c20
            clear c20
            by_cases c54 : t126 = t121
            · rw [if_pos c54] at H
              have c54b0 : (t126 == t121) = true := beq_iff_eq.mpr c54
              have c54b1 : (t126 != t121) = false := bne_eq_false_iff_eq.mpr c54
              clear c54
              by_cases c55 : t127 > t122
              · rw [if_pos c55] at H
                have c55b0 : decide (t122 < t127) = true := decide_eq_true c55
                clear c55
                by_cases c56 : t128 = 1
                · rw [if_pos c56] at H
                  have c56b0 : (t128 == 1) = true := beq_iff_eq.mpr c56
                  have c56b1 : (t128 != 1) = false := bne_eq_false_iff_eq.mpr c56
                  clear c56
                  by_cases c57 : t123 ≥ 28
                  · rw [if_pos c57] at H
                    have c57b0 : decide (28 ≤ t123) = true := decide_eq_true c57
                    clear c57
                    have H1 : ((day_Weekday.f (wrap64 (t120 + 1))).bind fun t142 => ((day_Weekday.f t120).bind fun t143 => (some (t142 == (Int.tmod (wrap64 (t143 + 1)) 7))))) = some r := by rw [if_pos rfl] at H; exact H
                    clear H
                    have H := H1
                    clear H1
                    replace H := Option.bind_eq_some_iff.mp H
                    obtain ⟨t142, A580, H⟩ := H
                    replace H : ((day_Weekday.f t120).bind fun t143 => (some (t142 == (Int.tmod (wrap64 (t143 + 1)) 7)))) = some r := H
                    have A58 := Aside0.mk A580
                    clear A580
                    replace H := Option.bind_eq_some_iff.mp H
                    obtain ⟨t143, A590, H⟩ := H
                    replace H : (some (t142 == (Int.tmod (wrap64 (t143 + 1)) 7))) = some r := H
                    have A59 := Aside0.mk A590
                    clear A590
                    obtain rfl := Option.some.inj H
                    have hnb60 := NB130_125.out
                    have hnc60 := NB125_130.out
                    have hcz61_0 : wc.cell? ⟨gb130, 0, none⟩ = some (.int .i64 t126) := (blk_cell BK130.out 0).trans rfl
                    have hcz61_1 : wc.cell? ⟨gb130, 1, none⟩ = some (.int .i64 t127) := (blk_cell BK130.out 1).trans rfl
                    have hcz61_2 : wc.cell? ⟨gb130, 2, none⟩ = some (.int .i64 t128) := (blk_cell BK130.out 2).trans rfl
                    have hfz61_0 := blk_frozen BK130.out 0
                    have hfz61_1 := blk_frozen BK130.out 1
                    have hfz61_2 := blk_frozen BK130.out 2
                    have hcz62_0 : wc.cell? ⟨gb125, 0, none⟩ = some (.int .i64 t121) := (blk_cell BK125.out 0).trans rfl
                    have hcz62_1 : wc.cell? ⟨gb125, 1, none⟩ = some (.int .i64 t122) := (blk_cell BK125.out 1).trans rfl
                    have hcz62_2 : wc.cell? ⟨gb125, 2, none⟩ = some (.int .i64 t123) := (blk_cell BK125.out 2).trans rfl
                    have hfz62_0 := blk_frozen BK125.out 0
                    have hfz62_1 := blk_frozen BK125.out 1
                    have hfz62_2 := blk_frozen BK125.out 2
                    go_wp2_with (first | (go_at_call 12; (with_reducible refine (day_Weekday.calls (wrap64 (t120 + 1)) t142 _ A58.out).mono ?_); rintro e w' ⟨rfl, ⟨nd, rfl⟩⟩) | (go_at_call 12; (with_reducible refine (day_Weekday.calls t120 t143 _ A59.out).mono ?_); rintro e w' ⟨rfl, ⟨nd, rfl⟩⟩))
                    go_ret
                    exact ⟨by first | rfl | (simp [errW_none, errW_some] <;> rfl) | (simp [*, errW_none, errW_some] <;> rfl), by repeat (first | (with_reducible first | exact HB.out | apply below_alloc | apply pw_below_drewN | apply below_drew1 | refine below_set ?_ GE125.out | refine below_set ?_ GE130.out) | exact HB.out)⟩
                  · rw [if_neg c57] at H
                    have c57b0 : decide (28 ≤ t123) = false := decide_eq_false c57
                    clear c57
                    by_cases c63 : t128 = (wrap64 (t123 + 1))
                    · rw [if_pos c63] at H
                      have c63b0 : (t128 == (wrap64 (t123 + 1))) = true := beq_iff_eq.mpr c63
                      have c63b1 : (t128 != (wrap64 (t123 + 1))) = false := bne_eq_false_iff_eq.mpr c63
                      clear c63
                      have H1 : (if t127 = t122 then ((day_Weekday.f (wrap64 (t120 + 1))).bind fun t144 => ((day_Weekday.f t120).bind fun t145 => (some (t144 == (Int.tmod (wrap64 (t145 + 1)) 7))))) else (some false)) = some r := by rw [if_pos rfl] at H; exact H
                      clear H
                      have H := H1
                      clear H1
                      by_cases c64 : t127 = t122
                      · rw [if_pos c64] at H
                        have c64b0 : (t127 == t122) = true := beq_iff_eq.mpr c64
                        have c64b1 : (t127 != t122) = false := bne_eq_false_iff_eq.mpr c64
                        clear c64
                        replace H := Option.bind_eq_some_iff.mp H
                        obtain ⟨t144, A650, H⟩ := H
                        replace H : ((day_Weekday.f t120).bind fun t145 => (some (t144 == (Int.tmod (wrap64 (t145 + 1)) 7)))) = some r := H
                        have A65 := Aside0.mk A650
                        clear A650
                        replace H := Option.bind_eq_some_iff.mp H
                        obtain ⟨t145, A660, H⟩ := H
                        replace H : (some (t144 == (Int.tmod (wrap64 (t145 + 1)) 7))) = some r := H
                        have A66 := Aside0.mk A660
                        clear A660
                        obtain rfl := Option.some.inj H
                        have hnb67 := NB130_125.out
                        have hnc67 := NB125_130.out
                        have hcz68_0 : wc.cell? ⟨gb130, 0, none⟩ = some (.int .i64 t126) := (blk_cell BK130.out 0).trans rfl
                        have hcz68_1 : wc.cell? ⟨gb130, 1, none⟩ = some (.int .i64 t127) := (blk_cell BK130.out 1).trans rfl
                        have hcz68_2 : wc.cell? ⟨gb130, 2, none⟩ = some (.int .i64 t128) := (blk_cell BK130.out 2).trans rfl
                        have hfz68_0 := blk_frozen BK130.out 0
                        have hfz68_1 := blk_frozen BK130.out 1
                        have hfz68_2 := blk_frozen BK130.out 2
                        have hcz69_0 : wc.cell? ⟨gb125, 0, none⟩ = some (.int .i64 t121) := (blk_cell BK125.out 0).trans rfl
                        have hcz69_1 : wc.cell? ⟨gb125, 1, none⟩ = some (.int .i64 t122) := (blk_cell BK125.out 1).trans rfl
                        have hcz69_2 : wc.cell? ⟨gb125, 2, none⟩ = some (.int .i64 t123) := (blk_cell BK125.out 2).trans rfl
                        have hfz69_0 := blk_frozen BK125.out 0
                        have hfz69_1 := blk_frozen BK125.out 1
                        have hfz69_2 := blk_frozen BK125.out 2
                        go_wp2_with (first | (go_at_call 12; (with_reducible refine (day_Weekday.calls (wrap64 (t120 + 1)) t144 _ A65.out).mono ?_); rintro e w' ⟨rfl, ⟨nd, rfl⟩⟩) | (go_at_call 12; (with_reducible refine (day_Weekday.calls t120 t145 _ A66.out).mono ?_); rintro e w' ⟨rfl, ⟨nd, rfl⟩⟩))
                        go_ret
                        exact ⟨by first | rfl | (simp [errW_none, errW_some] <;> rfl) | (simp [*, errW_none, errW_some] <;> rfl), by repeat (first | (with_reducible first | exact HB.out | apply below_alloc | apply pw_below_drewN | apply below_drew1 | refine below_set ?_ GE125.out | refine below_set ?_ GE130.out) | exact HB.out)⟩
                      · rw [if_neg c64] at H
                        have c64b0 : (t127 == t122) = false := beq_eq_false_iff_ne.mpr c64
                        have c64b1 : (t127 != t122) = true := bne_iff_ne.mpr c64
                        obtain rfl := Option.some.inj H
                        have hnb70 := NB130_125.out
                        have hnc70 := NB125_130.out
                        have hcz71_0 : wc.cell? ⟨gb130, 0, none⟩ = some (.int .i64 t126) := (blk_cell BK130.out 0).trans rfl
                        have hcz71_1 : wc.cell? ⟨gb130, 1, none⟩ = some (.int .i64 t127) := (blk_cell BK130.out 1).trans rfl
                        have hcz71_2 : wc.cell? ⟨gb130, 2, none⟩ = some (.int .i64 t128) := (blk_cell BK130.out 2).trans rfl
                        have hfz71_0 := blk_frozen BK130.out 0
                        have hfz71_1 := blk_frozen BK130.out 1
                        have hfz71_2 := blk_frozen BK130.out 2
                        have hcz72_0 : wc.cell? ⟨gb125, 0, none⟩ = some (.int .i64 t121) := (blk_cell BK125.out 0).trans rfl
                        have hcz72_1 : wc.cell? ⟨gb125, 1, none⟩ = some (.int .i64 t122) := (blk_cell BK125.out 1).trans rfl
                        have hcz72_2 : wc.cell? ⟨gb125, 2, none⟩ = some (.int .i64 t123) := (blk_cell BK125.out 2).trans rfl
                        have hfz72_0 := blk_frozen BK125.out 0
                        have hfz72_1 := blk_frozen BK125.out 1
                        have hfz72_2 := blk_frozen BK125.out 2
                        go_wp2
                        go_ret
                        exact ⟨by first | rfl | (simp [errW_none, errW_some] <;> rfl) | (simp [*, errW_none, errW_some] <;> rfl), by repeat (first | (with_reducible first | exact HB.out | apply below_alloc | apply pw_below_drewN | apply below_drew1 | refine below_set ?_ GE125.out | refine below_set ?_ GE130.out) | exact HB.out)⟩
                    · rw [if_neg c63] at H
                      have c63b0 : (t128 == (wrap64 (t123 + 1))) = false := beq_eq_false_iff_ne.mpr c63
                      have c63b1 : (t128 != (wrap64 (t123 + 1))) = true := bne_iff_ne.mpr c63
                      have H1 : (some false) = some r := by rw [if_pos rfl] at H; exact H
                      clear H
                      have H := H1
                      clear H1
                      obtain rfl := Option.some.inj H
                      have hnb73 := NB130_125.out
                      have hnc73 := NB125_130.out
                      have hcz74_0 : wc.cell? ⟨gb130, 0, none⟩ = some (.int .i64 t126) := (blk_cell BK130.out 0).trans rfl
                      have hcz74_1 : wc.cell? ⟨gb130, 1, none⟩ = some (.int .i64 t127) := (blk_cell BK130.out 1).trans rfl
                      have hcz74_2 : wc.cell? ⟨gb130, 2, none⟩ = some (.int .i64 t128) := (blk_cell BK130.out 2).trans rfl
                      have hfz74_0 := blk_frozen BK130.out 0
                      have hfz74_1 := blk_frozen BK130.out 1
                      have hfz74_2 := blk_frozen BK130.out 2
                      have hcz75_0 : wc.cell? ⟨gb125, 0, none⟩ = some (.int .i64 t121) := (blk_cell BK125.out 0).trans rfl
                      have hcz75_1 : wc.cell? ⟨gb125, 1, none⟩ = some (.int .i64 t122) := (blk_cell BK125.out 1).trans rfl
                      have hcz75_2 : wc.cell? ⟨gb125, 2, none⟩ = some (.int .i64 t123) := (blk_cell BK125.out 2).trans rfl
                      have hfz75_0 := blk_frozen BK125.out 0
                      have hfz75_1 := blk_frozen BK125.out 1
                      have hfz75_2 := blk_frozen BK125.out 2
                      go_wp2
                      go_ret
                      exact ⟨by first | rfl | (simp [errW_none, errW_some] <;> rfl) | (simp [*, errW_none, errW_some] <;> rfl), by repeat (first | (with_reducible first | exact HB.out | apply below_alloc | apply pw_below_drewN | apply below_drew1 | refine below_set ?_ GE125.out | refine below_set ?_ GE130.out) | exact HB.out)⟩
                · rw [if_neg c56] at H
                  have c56b0 : (t128 == 1) = false := beq_eq_false_iff_ne.mpr c56
                  have c56b1 : (t128 != 1) = true := bne_iff_ne.mpr c56
                  by_cases c76 : t128 = (wrap64 (t123 + 1))
                  · rw [if_pos c76] at H
                    have c76b0 : (t128 == (wrap64 (t123 + 1))) = true := beq_iff_eq.mpr c76
                    have c76b1 : (t128 != (wrap64 (t123 + 1))) = false := bne_eq_false_iff_eq.mpr c76
                    clear c76
                    have H1 : (if t127 = t122 then ((day_Weekday.f (wrap64 (t120 + 1))).bind fun t146 => ((day_Weekday.f t120).bind fun t147 => (some (t146 == (Int.tmod (wrap64 (t147 + 1)) 7))))) else (some false)) = some r := by rw [if_pos rfl] at H; exact H
                    clear H
                    have H := H1
                    clear H1
                    by_cases c77 : t127 = t122
                    · rw [if_pos c77] at H
                      have c77b0 : (t127 == t122) = true := beq_iff_eq.mpr c77
                      have c77b1 : (t127 != t122) = false := bne_eq_false_iff_eq.mpr c77
                      clear c77
                      replace H := Option.bind_eq_some_iff.mp H
                      obtain ⟨t146, A780, H⟩ := H
                      replace H : ((day_Weekday.f t120).bind fun t147 => (some (t146 == (Int.tmod (wrap64 (t147 + 1)) 7)))) = some r := H
                      have A78 := Aside0.mk A780
                      clear A780
                      replace H := Option.bind_eq_some_iff.mp H
                      obtain ⟨t147, A790, H⟩ := H
                      replace H : (some (t146 == (Int.tmod (wrap64 (t147 + 1)) 7))) = some r := H
                      have A79 := Aside0.mk A790
                      clear A790
                      obtain rfl := Option.some.inj H
                      have hnb80 := NB130_125.out
                      have hnc80 := NB125_130.out
                      have hcz81_0 : wc.cell? ⟨gb130, 0, none⟩ = some (.int .i64 t126) := (blk_cell BK130.out 0).trans rfl
                      have hcz81_1 : wc.cell? ⟨gb130, 1, none⟩ = some (.int .i64 t127) := (blk_cell BK130.out 1).trans rfl
                      have hcz81_2 : wc.cell? ⟨gb130, 2, none⟩ = some (.int .i64 t128) := (blk_cell BK130.out 2).trans rfl
                      have hfz81_0 := blk_frozen BK130.out 0
                      have hfz81_1 := blk_frozen BK130.out 1
                      have hfz81_2 := blk_frozen BK130.out 2
                      have hcz82_0 : wc.cell? ⟨gb125, 0, none⟩ = some (.int .i64 t121) := (blk_cell BK125.out 0).trans rfl
                      have hcz82_1 : wc.cell? ⟨gb125, 1, none⟩ = some (.int .i64 t122) := (blk_cell BK125.out 1).trans rfl
                      have hcz82_2 : wc.cell? ⟨gb125, 2, none⟩ = some (.int .i64 t123) := (blk_cell BK125.out 2).trans rfl
                      have hfz82_0 := blk_frozen BK125.out 0
                      have hfz82_1 := blk_frozen BK125.out 1
                      have hfz82_2 := blk_frozen BK125.out 2
                      go_wp2_with (first | (go_at_call 12; (with_reducible refine (day_Weekday.calls (wrap64 (t120 + 1)) t146 _ A78.out).mono ?_); rintro e w' ⟨rfl, ⟨nd, rfl⟩⟩) | (go_at_call 12; (with_reducible refine (day_Weekday.calls t120 t147 _ A79.out).mono ?_); rintro e w' ⟨rfl, ⟨nd, rfl⟩⟩))
                      go_ret
                      exact ⟨by first | rfl | (simp [errW_none, errW_some] <;> rfl) | (simp [*, errW_none, errW_some] <;> rfl), by repeat (first | (with_reducible first | exact HB.out | apply below_alloc | apply pw_below_drewN | apply below_drew1 | refine below_set ?_ GE125.out | refine below_set ?_ GE130.out) | exact HB.out)⟩
                    · rw [if_neg c77] at H
                      have c77b0 : (t127 == t122) = false := beq_eq_false_iff_ne.mpr c77
                      have c77b1 : (t127 != t122) = true := bne_iff_ne.mpr c77
                      obtain rfl := Option.some.inj H
                      have hnb83 := NB130_125.out
                      have hnc83 := NB125_130.out
                      have hcz84_0 : wc.cell? ⟨gb130, 0, none⟩ = some (.int .i64 t126) := (blk_cell BK130.out 0).trans rfl
                      have hcz84_1 : wc.cell? ⟨gb130, 1, none⟩ = some (.int .i64 t127) := (blk_cell BK130.out 1).trans rfl
                      have hcz84_2 : wc.cell? ⟨gb130, 2, none⟩ = some (.int .i64 t128) := (blk_cell BK130.out 2).trans rfl
                      have hfz84_0 := blk_frozen BK130.out 0
                      have hfz84_1 := blk_frozen BK130.out 1
                      have hfz84_2 := blk_frozen BK130.out 2
                      have hcz85_0 : wc.cell? ⟨gb125, 0, none⟩ = some (.int .i64 t121) := (blk_cell BK125.out 0).trans rfl
                      have hcz85_1 : wc.cell? ⟨gb125, 1, none⟩ = some (.int .i64 t122) := (blk_cell BK125.out 1).trans rfl
                      have hcz85_2 : wc.cell? ⟨gb125, 2, none⟩ = some (.int .i64 t123) := (blk_cell BK125.out 2).trans rfl
                      have hfz85_0 := blk_frozen BK125.out 0
                      have hfz85_1 := blk_frozen BK125.out 1
                      have hfz85_2 := blk_frozen BK125.out 2
                      go_wp2
                      go_ret
                      exact ⟨by first | rfl | (simp [errW_none, errW_some] <;> rfl) | (simp [*, errW_none, errW_some] <;> rfl), by repeat (first | (with_reducible first | exact HB.out | apply below_alloc | apply pw_below_drewN | apply below_drew1 | refine below_set ?_ GE125.out | refine below_set ?_ GE130.out) | exact HB.out)⟩
                  · rw [if_neg c76] at H
                    have c76b0 : (t128 == (wrap64 (t123 + 1))) = false := beq_eq_false_iff_ne.mpr c76
                    have c76b1 : (t128 != (wrap64 (t123 + 1))) = true := bne_iff_ne.mpr c76
                    have H1 : (some false) = some r := by rw [if_pos rfl] at H; exact H
                    clear H
                    have H := H1
                    clear H1
                    obtain rfl := Option.some.inj H
                    have hnb86 := NB130_125.out
                    have hnc86 := NB125_130.out
                    have hcz87_0 : wc.cell? ⟨gb130, 0, none⟩ = some (.int .i64 t126) := (blk_cell BK130.out 0).trans rfl
                    have hcz87_1 : wc.cell? ⟨gb130, 1, none⟩ = some (.int .i64 t127) := (blk_cell BK130.out 1).trans rfl
                    have hcz87_2 : wc.cell? ⟨gb130, 2, none⟩ = some (.int .i64 t128) := (blk_cell BK130.out 2).trans rfl
                    have hfz87_0 := blk_frozen BK130.out 0
                    have hfz87_1 := blk_frozen BK130.out 1
                    have hfz87_2 := blk_frozen BK130.out 2
                    have hcz88_0 : wc.cell? ⟨gb125, 0, none⟩ = some (.int .i64 t121) := (blk_cell BK125.out 0).trans rfl
                    have hcz88_1 : wc.cell? ⟨gb125, 1, none⟩ = some (.int .i64 t122) := (blk_cell BK125.out 1).trans rfl
                    have hcz88_2 : wc.cell? ⟨gb125, 2, none⟩ = some (.int .i64 t123) := (blk_cell BK125.out 2).trans rfl
                    have hfz88_0 := blk_frozen BK125.out 0
                    have hfz88_1 := blk_frozen BK125.out 1
                    have hfz88_2 := blk_frozen BK125.out 2
                    go_wp2
                    go_ret
                    exact ⟨by first | rfl | (simp [errW_none, errW_some] <;> rfl) | (simp [*, errW_none, errW_some] <;> rfl), by repeat (first | (with_reducible first | exact HB.out | apply below_alloc | apply pw_below_drewN | apply below_drew1 | refine below_set ?_ GE125.out | refine below_set ?_ GE130.out) | exact HB.out)⟩
              · rw [if_neg c55] at H
                have c55b0 : decide (t122 < t127) = false := decide_eq_false c55
                clear c55
                by_cases c89 : t127 = t122
                · rw [if_pos c89] at H
                  have c89b0 : (t127 == t122) = true := beq_iff_eq.mpr c89
                  have c89b1 : (t127 != t122) = false := bne_eq_false_iff_eq.mpr c89
                  clear c89
                  by_cases c90 : t128 = 1
                  · rw [if_pos c90] at H
                    have c90b0 : (t128 == 1) = true := beq_iff_eq.mpr c90
                    have c90b1 : (t128 != 1) = false := bne_eq_false_iff_eq.mpr c90
                    clear c90
                    by_cases c91 : t123 ≥ 28
                    · rw [if_pos c91] at H
                      have c91b0 : decide (28 ≤ t123) = true := decide_eq_true c91
                      clear c91
                      have H1 : (if t128 = (wrap64 (t123 + 1)) then ((day_Weekday.f (wrap64 (t120 + 1))).bind fun t148 => ((day_Weekday.f t120).bind fun t149 => (some (t148 == (Int.tmod (wrap64 (t149 + 1)) 7))))) else (some false)) = some r := by rw [if_pos rfl] at H; exact H
                      clear H
                      have H := H1
                      clear H1
                      by_cases c92 : t128 = (wrap64 (t123 + 1))
                      · rw [if_pos c92] at H
                        have c92b0 : (t128 == (wrap64 (t123 + 1))) = true := beq_iff_eq.mpr c92
                        have c92b1 : (t128 != (wrap64 (t123 + 1))) = false := bne_eq_false_iff_eq.mpr c92
                        clear c92
                        replace H := Option.bind_eq_some_iff.mp H
                        obtain ⟨t148, A930, H⟩ := H
                        replace H : ((day_Weekday.f t120).bind fun t149 => (some (t148 == (Int.tmod (wrap64 (t149 + 1)) 7)))) = some r := H
                        have A93 := Aside0.mk A930
                        clear A930
                        replace H := Option.bind_eq_some_iff.mp H
                        obtain ⟨t149, A940, H⟩ := H
                        replace H : (some (t148 == (Int.tmod (wrap64 (t149 + 1)) 7))) = some r := H
                        have A94 := Aside0.mk A940
                        clear A940
                        obtain rfl := Option.some.inj H
                        have hnb95 := NB130_125.out
                        have hnc95 := NB125_130.out
                        have hcz96_0 : wc.cell? ⟨gb130, 0, none⟩ = some (.int .i64 t126) := (blk_cell BK130.out 0).trans rfl
                        have hcz96_1 : wc.cell? ⟨gb130, 1, none⟩ = some (.int .i64 t127) := (blk_cell BK130.out 1).trans rfl
                        have hcz96_2 : wc.cell? ⟨gb130, 2, none⟩ = some (.int .i64 t128) := (blk_cell BK130.out 2).trans rfl
                        have hfz96_0 := blk_frozen BK130.out 0
                        have hfz96_1 := blk_frozen BK130.out 1
                        have hfz96_2 := blk_frozen BK130.out 2
                        have hcz97_0 : wc.cell? ⟨gb125, 0, none⟩ = some (.int .i64 t121) := (blk_cell BK125.out 0).trans rfl
                        have hcz97_1 : wc.cell? ⟨gb125, 1, none⟩ = some (.int .i64 t122) := (blk_cell BK125.out 1).trans rfl
                        have hcz97_2 : wc.cell? ⟨gb125, 2, none⟩ = some (.int .i64 t123) := (blk_cell BK125.out 2).trans rfl
                        have hfz97_0 := blk_frozen BK125.out 0
                        have hfz97_1 := blk_frozen BK125.out 1
                        have hfz97_2 := blk_frozen BK125.out 2
                        go_wp2_with (first | (go_at_call 12; (with_reducible refine (day_Weekday.calls (wrap64 (t120 + 1)) t148 _ A93.out).mono ?_); rintro e w' ⟨rfl, ⟨nd, rfl⟩⟩) | (go_at_call 12; (with_reducible refine (day_Weekday.calls t120 t149 _ A94.out).mono ?_); rintro e w' ⟨rfl, ⟨nd, rfl⟩⟩))
                        go_ret
                        exact ⟨by first | rfl | (simp [errW_none, errW_some] <;> rfl) | (simp [*, errW_none, errW_some] <;> rfl), by repeat (first | (with_reducible first | exact HB.out | apply below_alloc | apply pw_below_drewN | apply below_drew1 | refine below_set ?_ GE125.out | refine below_set ?_ GE130.out) | exact HB.out)⟩
                      · rw [if_neg c92] at H
                        have c92b0 : (t128 == (wrap64 (t123 + 1))) = false := beq_eq_false_iff_ne.mpr c92
                        have c92b1 : (t128 != (wrap64 (t123 + 1))) = true := bne_iff_ne.mpr c92
                        obtain rfl := Option.some.inj H
                        have hnb98 := NB130_125.out
                        have hnc98 := NB125_130.out
                        have hcz99_0 : wc.cell? ⟨gb130, 0, none⟩ = some (.int .i64 t126) := (blk_cell BK130.out 0).trans rfl
                        have hcz99_1 : wc.cell? ⟨gb130, 1, none⟩ = some (.int .i64 t127) := (blk_cell BK130.out 1).trans rfl
                        have hcz99_2 : wc.cell? ⟨gb130, 2, none⟩ = some (.int .i64 t128) := (blk_cell BK130.out 2).trans rfl
                        have hfz99_0 := blk_frozen BK130.out 0
                        have hfz99_1 := blk_frozen BK130.out 1
                        have hfz99_2 := blk_frozen BK130.out 2
                        have hcz100_0 : wc.cell? ⟨gb125, 0, none⟩ = some (.int .i64 t121) := (blk_cell BK125.out 0).trans rfl
                        have hcz100_1 : wc.cell? ⟨gb125, 1, none⟩ = some (.int .i64 t122) := (blk_cell BK125.out 1).trans rfl
                        have hcz100_2 : wc.cell? ⟨gb125, 2, none⟩ = some (.int .i64 t123) := (blk_cell BK125.out 2).trans rfl
                        have hfz100_0 := blk_frozen BK125.out 0
                        have hfz100_1 := blk_frozen BK125.out 1
                        have hfz100_2 := blk_frozen BK125.out 2
                        go_wp2
                        go_ret
                        exact ⟨by first | rfl | (simp [errW_none, errW_some] <;> rfl) | (simp [*, errW_none, errW_some] <;> rfl), by repeat (first | (with_reducible first | exact HB.out | apply below_alloc | apply pw_below_drewN | apply below_drew1 | refine below_set ?_ GE125.out | refine below_set ?_ GE130.out) | exact HB.out)⟩
                    · rw [if_neg c91] at H
                      have c91b0 : decide (28 ≤ t123) = false := decide_eq_false c91
                      clear c91
                      by_cases c101 : t128 = (wrap64 (t123 + 1))
                      · rw [if_pos c101] at H
                        have c101b0 : (t128 == (wrap64 (t123 + 1))) = true := beq_iff_eq.mpr c101
                        have c101b1 : (t128 != (wrap64 (t123 + 1))) = false := bne_eq_false_iff_eq.mpr c101
                        clear c101
                        have H1 : ((day_Weekday.f (wrap64 (t120 + 1))).bind fun t150 => ((day_Weekday.f t120).bind fun t151 => (some (t150 == (Int.tmod (wrap64 (t151 + 1)) 7))))) = some r := by rw [if_pos rfl] at H; exact H
                        clear H
                        have H := H1
                        clear H1
                        replace H := Option.bind_eq_some_iff.mp H
                        obtain ⟨t150, A1020, H⟩ := H
                        replace H : ((day_Weekday.f t120).bind fun t151 => (some (t150 == (Int.tmod (wrap64 (t151 + 1)) 7)))) = some r := H
                        have A102 := Aside0.mk A1020
                        clear A1020
                        replace H := Option.bind_eq_some_iff.mp H
                        obtain ⟨t151, A1030, H⟩ := H
                        replace H : (some (t150 == (Int.tmod (wrap64 (t151 + 1)) 7))) = some r := H
                        have A103 := Aside0.mk A1030
                        clear A1030
                        obtain rfl := Option.some.inj H
                        have hnb104 := NB130_125.out
                        have hnc104 := NB125_130.out
                        have hcz105_0 : wc.cell? ⟨gb130, 0, none⟩ = some (.int .i64 t126) := (blk_cell BK130.out 0).trans rfl
                        have hcz105_1 : wc.cell? ⟨gb130, 1, none⟩ = some (.int .i64 t127) := (blk_cell BK130.out 1).trans rfl
                        have hcz105_2 : wc.cell? ⟨gb130, 2, none⟩ = some (.int .i64 t128) := (blk_cell BK130.out 2).trans rfl
                        have hfz105_0 := blk_frozen BK130.out 0
                        have hfz105_1 := blk_frozen BK130.out 1
                        have hfz105_2 := blk_frozen BK130.out 2
                        have hcz106_0 : wc.cell? ⟨gb125, 0, none⟩ = some (.int .i64 t121) := (blk_cell BK125.out 0).trans rfl
                        have hcz106_1 : wc.cell? ⟨gb125, 1, none⟩ = some (.int .i64 t122) := (blk_cell BK125.out 1).trans rfl
                        have hcz106_2 : wc.cell? ⟨gb125, 2, none⟩ = some (.int .i64 t123) := (blk_cell BK125.out 2).trans rfl
                        have hfz106_0 := blk_frozen BK125.out 0
                        have hfz106_1 := blk_frozen BK125.out 1
                        have hfz106_2 := blk_frozen BK125.out 2
                        go_wp2_with (first | (go_at_call 12; (with_reducible refine (day_Weekday.calls (wrap64 (t120 + 1)) t150 _ A102.out).mono ?_); rintro e w' ⟨rfl, ⟨nd, rfl⟩⟩) | (go_at_call 12; (with_reducible refine (day_Weekday.calls t120 t151 _ A103.out).mono ?_); rintro e w' ⟨rfl, ⟨nd, rfl⟩⟩))
                        go_ret
                        exact ⟨by first | rfl | (simp [errW_none, errW_some] <;> rfl) | (simp [*, errW_none, errW_some] <;> rfl), by repeat (first | (with_reducible first | exact HB.out | apply below_alloc | apply pw_below_drewN | apply below_drew1 | refine below_set ?_ GE125.out | refine below_set ?_ GE130.out) | exact HB.out)⟩
                      · rw [if_neg c101] at H
                        have c101b0 : (t128 == (wrap64 (t123 + 1))) = false := beq_eq_false_iff_ne.mpr c101
                        have c101b1 : (t128 != (wrap64 (t123 + 1))) = true := bne_iff_ne.mpr c101
                        have H1 : (some false) = some r := by rw [if_pos rfl] at H; exact H
                        clear H
                        have H := H1
                        clear H1
                        obtain rfl := Option.some.inj H
                        have hnb107 := NB130_125.out
                        have hnc107 := NB125_130.out
                        have hcz108_0 : wc.cell? ⟨gb130, 0, none⟩ = some (.int .i64 t126) := (blk_cell BK130.out 0).trans rfl
                        have hcz108_1 : wc.cell? ⟨gb130, 1, none⟩ = some (.int .i64 t127) := (blk_cell BK130.out 1).trans rfl
                        have hcz108_2 : wc.cell? ⟨gb130, 2, none⟩ = some (.int .i64 t128) := (blk_cell BK130.out 2).trans rfl
                        have hfz108_0 := blk_frozen BK130.out 0
                        have hfz108_1 := blk_frozen BK130.out 1
                        have hfz108_2 := blk_frozen BK130.out 2
                        have hcz109_0 : wc.cell? ⟨gb125, 0, none⟩ = some (.int .i64 t121) := (blk_cell BK125.out 0).trans rfl
                        have hcz109_1 : wc.cell? ⟨gb125, 1, none⟩ = some (.int .i64 t122) := (blk_cell BK125.out 1).trans rfl
                        have hcz109_2 : wc.cell? ⟨gb125, 2, none⟩ = some (.int .i64 t123) := (blk_cell BK125.out 2).trans rfl
                        have hfz109_0 := blk_frozen BK125.out 0
                        have hfz109_1 := blk_frozen BK125.out 1
                        have hfz109_2 := blk_frozen BK125.out 2
                        go_wp2
                        go_ret
                        exact ⟨by first | rfl | (simp [errW_none, errW_some] <;> rfl) | (simp [*, errW_none, errW_some] <;> rfl), by repeat (first | (with_reducible first | exact HB.out | apply below_alloc | apply pw_below_drewN | apply below_drew1 | refine below_set ?_ GE125.out | refine below_set ?_ GE130.out) | exact HB.out)⟩
                  · rw [if_neg c90] at H
                    have c90b0 : (t128 == 1) = false := beq_eq_false_iff_ne.mpr c90
                    have c90b1 : (t128 != 1) = true := bne_iff_ne.mpr c90
                    by_cases c110 : t128 = (wrap64 (t123 + 1))
                    · rw [if_pos c110] at H
                      have c110b0 : (t128 == (wrap64 (t123 + 1))) = true := beq_iff_eq.mpr c110
                      have c110b1 : (t128 != (wrap64 (t123 + 1))) = false := bne_eq_false_iff_eq.mpr c110
                      clear c110
                      have H1 : ((day_Weekday.f (wrap64 (t120 + 1))).bind fun t152 => ((day_Weekday.f t120).bind fun t153 => (some (t152 == (Int.tmod (wrap64 (t153 + 1)) 7))))) = some r := by rw [if_pos rfl] at H; exact H
                      clear H
                      have H := H1
                      clear H1
                      replace H := Option.bind_eq_some_iff.mp H
                      obtain ⟨t152, A1110, H⟩ := H
                      replace H : ((day_Weekday.f t120).bind fun t153 => (some (t152 == (Int.tmod (wrap64 (t153 + 1)) 7)))) = some r := H
                      have A111 := Aside0.mk A1110
                      clear A1110
                      replace H := Option.bind_eq_some_iff.mp H
                      obtain ⟨t153, A1120, H⟩ := H
                      replace H : (some (t152 == (Int.tmod (wrap64 (t153 + 1)) 7))) = some r := H
                      have A112 := Aside0.mk A1120
                      clear A1120
                      obtain rfl := Option.some.inj H
                      have hnb113 := NB130_125.out
                      have hnc113 := NB125_130.out
                      have hcz114_0 : wc.cell? ⟨gb130, 0, none⟩ = some (.int .i64 t126) := (blk_cell BK130.out 0).trans rfl
                      have hcz114_1 : wc.cell? ⟨gb130, 1, none⟩ = some (.int .i64 t127) := (blk_cell BK130.out 1).trans rfl
                      have hcz114_2 : wc.cell? ⟨gb130, 2, none⟩ = some (.int .i64 t128) := (blk_cell BK130.out 2).trans rfl
                      have hfz114_0 := blk_frozen BK130.out 0
                      have hfz114_1 := blk_frozen BK130.out 1
                      have hfz114_2 := blk_frozen BK130.out 2
                      have hcz115_0 : wc.cell? ⟨gb125, 0, none⟩ = some (.int .i64 t121) := (blk_cell BK125.out 0).trans rfl
                      have hcz115_1 : wc.cell? ⟨gb125, 1, none⟩ = some (.int .i64 t122) := (blk_cell BK125.out 1).trans rfl
                      have hcz115_2 : wc.cell? ⟨gb125, 2, none⟩ = some (.int .i64 t123) := (blk_cell BK125.out 2).trans rfl
                      have hfz115_0 := blk_frozen BK125.out 0
                      have hfz115_1 := blk_frozen BK125.out 1
                      have hfz115_2 := blk_frozen BK125.out 2
                      go_wp2_with (first | (go_at_call 12; (with_reducible refine (day_Weekday.calls (wrap64 (t120 + 1)) t152 _ A111.out).mono ?_); rintro e w' ⟨rfl, ⟨nd, rfl⟩⟩) | (go_at_call 12; (with_reducible refine (day_Weekday.calls t120 t153 _ A112.out).mono ?_); rintro e w' ⟨rfl, ⟨nd, rfl⟩⟩))
                      go_ret
                      exact ⟨by first | rfl | (simp [errW_none, errW_some] <;> rfl) | (simp [*, errW_none, errW_some] <;> rfl), by repeat (first | (with_reducible first | exact HB.out | apply below_alloc | apply pw_below_drewN | apply below_drew1 | refine below_set ?_ GE125.out | refine below_set ?_ GE130.out) | exact HB.out)⟩
                    · rw [if_neg c110] at H
                      have c110b0 : (t128 == (wrap64 (t123 + 1))) = false := beq_eq_false_iff_ne.mpr c110
                      have c110b1 : (t128 != (wrap64 (t123 + 1))) = true := bne_iff_ne.mpr c110
                      have H1 : (some false) = some r := by rw [if_pos rfl] at H; exact H
                      clear H
                      have H := H1
                      clear H1
                      obtain rfl := Option.some.inj H
                      have hnb116 := NB130_125.out
                      have hnc116 := NB125_130.out
                      have hcz117_0 : wc.cell? ⟨gb130, 0, none⟩ = some (.int .i64 t126) := (blk_cell BK130.out 0).trans rfl
                      have hcz117_1 : wc.cell? ⟨gb130, 1, none⟩ = some (.int .i64 t127) := (blk_cell BK130.out 1).trans rfl
                      have hcz117_2 : wc.cell? ⟨gb130, 2, none⟩ = some (.int .i64 t128) := (blk_cell BK130.out 2).trans rfl
                      have hfz117_0 := blk_frozen BK130.out 0
                      have hfz117_1 := blk_frozen BK130.out 1
                      have hfz117_2 := blk_frozen BK130.out 2
                      have hcz118_0 : wc.cell? ⟨gb125, 0, none⟩ = some (.int .i64 t121) := (blk_cell BK125.out 0).trans rfl
                      have hcz118_1 : wc.cell? ⟨gb125, 1, none⟩ = some (.int .i64 t122) := (blk_cell BK125.out 1).trans rfl
                      have hcz118_2 : wc.cell? ⟨gb125, 2, none⟩ = some (.int .i64 t123) := (blk_cell BK125.out 2).trans rfl
                      have hfz118_0 := blk_frozen BK125.out 0
                      have hfz118_1 := blk_frozen BK125.out 1
                      have hfz118_2 := blk_frozen BK125.out 2
                      go_wp2
                      go_ret
                      exact ⟨by first | rfl | (simp [errW_none, errW_some] <;> rfl) | (simp [*, errW_none, errW_some] <;> rfl), by repeat (first | (with_reducible first | exact HB.out | apply below_alloc | apply pw_below_drewN | apply below_drew1 | refine below_set ?_ GE125.out | refine below_set ?_ GE130.out) | exact HB.out)⟩
                · rw [if_neg c89] at H
                  have c89b0 : (t127 == t122) = false := beq_eq_false_iff_ne.mpr c89
                  have c89b1 : (t127 != t122) = true := bne_iff_ne.mpr c89
                  by_cases c119 : t128 = 1
                  · rw [if_pos c119] at H
                    have c119b0 : (t128 == 1) = true := beq_iff_eq.mpr c119
                    have c119b1 : (t128 != 1) = false := bne_eq_false_iff_eq.mpr c119
                    clear c119
                    by_cases c120 : t123 ≥ 28
                    · rw [if_pos c120] at H
                      have c120b0 : decide (28 ≤ t123) = true := decide_eq_true c120
                      clear c120
                      have H1 : (some false) = some r := by rw [if_pos rfl] at H; exact H
                      clear H
                      have H := H1
                      clear H1
                      obtain rfl := Option.some.inj H
                      have hnb121 := NB130_125.out
                      have hnc121 := NB125_130.out
                      have hcz122_0 : wc.cell? ⟨gb130, 0, none⟩ = some (.int .i64 t126) := (blk_cell BK130.out 0).trans rfl
                      have hcz122_1 : wc.cell? ⟨gb130, 1, none⟩ = some (.int .i64 t127) := (blk_cell BK130.out 1).trans rfl
                      have hcz122_2 : wc.cell? ⟨gb130, 2, none⟩ = some (.int .i64 t128) := (blk_cell BK130.out 2).trans rfl
                      have hfz122_0 := blk_frozen BK130.out 0
                      have hfz122_1 := blk_frozen BK130.out 1
                      have hfz122_2 := blk_frozen BK130.out 2
                      have hcz123_0 : wc.cell? ⟨gb125, 0, none⟩ = some (.int .i64 t121) := (blk_cell BK125.out 0).trans rfl
                      have hcz123_1 : wc.cell? ⟨gb125, 1, none⟩ = some (.int .i64 t122) := (blk_cell BK125.out 1).trans rfl
                      have hcz123_2 : wc.cell? ⟨gb125, 2, none⟩ = some (.int .i64 t123) := (blk_cell BK125.out 2).trans rfl
                      have hfz123_0 := blk_frozen BK125.out 0
                      have hfz123_1 := blk_frozen BK125.out 1
                      have hfz123_2 := blk_frozen BK125.out 2
                      go_wp2
                      go_ret
                      exact ⟨by first | rfl | (simp [errW_none, errW_some] <;> rfl) | (simp [*, errW_none, errW_some] <;> rfl), by repeat (first | (with_reducible first | exact HB.out | apply below_alloc | apply pw_below_drewN | apply below_drew1 | refine below_set ?_ GE125.out | refine below_set ?_ GE130.out) | exact HB.out)⟩
                    · rw [if_neg c120] at H
                      have c120b0 : decide (28 ≤ t123) = false := decide_eq_false c120
                      clear c120
                      by_cases c124 : t128 = (wrap64 (t123 + 1))
                      · rw [if_pos c124] at H
                        have c124b0 : (t128 == (wrap64 (t123 + 1))) = true := beq_iff_eq.mpr c124
                        have c124b1 : (t128 != (wrap64 (t123 + 1))) = false := bne_eq_false_iff_eq.mpr c124
                        clear c124
                        have H1 : (some false) = some r := by rw [if_pos rfl] at H; exact H
                        clear H
                        have H := H1
                        clear H1
                        obtain rfl := Option.some.inj H
                        have hnb125 := NB130_125.out
                        have hnc125 := NB125_130.out
                        have hcz126_0 : wc.cell? ⟨gb130, 0, none⟩ = some (.int .i64 t126) := (blk_cell BK130.out 0).trans rfl
                        have hcz126_1 : wc.cell? ⟨gb130, 1, none⟩ = some (.int .i64 t127) := (blk_cell BK130.out 1).trans rfl
                        have hcz126_2 : wc.cell? ⟨gb130, 2, none⟩ = some (.int .i64 t128) := (blk_cell BK130.out 2).trans rfl
                        have hfz126_0 := blk_frozen BK130.out 0
                        have hfz126_1 := blk_frozen BK130.out 1
                        have hfz126_2 := blk_frozen BK130.out 2
                        have hcz127_0 : wc.cell? ⟨gb125, 0, none⟩ = some (.int .i64 t121) := (blk_cell BK125.out 0).trans rfl
                        have hcz127_1 : wc.cell? ⟨gb125, 1, none⟩ = some (.int .i64 t122) := (blk_cell BK125.out 1).trans rfl
                        have hcz127_2 : wc.cell? ⟨gb125, 2, none⟩ = some (.int .i64 t123) := (blk_cell BK125.out 2).trans rfl
                        have hfz127_0 := blk_frozen BK125.out 0
                        have hfz127_1 := blk_frozen BK125.out 1
                        have hfz127_2 := blk_frozen BK125.out 2
                        go_wp2
                        go_ret
                        exact ⟨by first | rfl | (simp [errW_none, errW_some] <;> rfl) | (simp [*, errW_none, errW_some] <;> rfl), by repeat (first | (with_reducible first | exact HB.out | apply below_alloc | apply pw_below_drewN | apply below_drew1 | refine below_set ?_ GE125.out | refine below_set ?_ GE130.out) | exact HB.out)⟩
                      · rw [if_neg c124] at H
                        have c124b0 : (t128 == (wrap64 (t123 + 1))) = false := beq_eq_false_iff_ne.mpr c124
                        have c124b1 : (t128 != (wrap64 (t123 + 1))) = true := bne_iff_ne.mpr c124
                        have H1 : (some false) = some r := by rw [if_pos rfl] at H; exact H
                        clear H
                        have H := H1
                        clear H1
                        obtain rfl := Option.some.inj H
                        have hnb128 := NB130_125.out
                        have hnc128 := NB125_130.out
                        have hcz129_0 : wc.cell? ⟨gb130, 0, none⟩ = some (.int .i64 t126) := (blk_cell BK130.out 0).trans rfl
                        have hcz129_1 : wc.cell? ⟨gb130, 1, none⟩ = some (.int .i64 t127) := (blk_cell BK130.out 1).trans rfl
                        have hcz129_2 : wc.cell? ⟨gb130, 2, none⟩ = some (.int .i64 t128) := (blk_cell BK130.out 2).trans rfl
                        have hfz129_0 := blk_frozen BK130.out 0
                        have hfz129_1 := blk_frozen BK130.out 1
                        have hfz129_2 := blk_frozen BK130.out 2
                        have hcz130_0 : wc.cell? ⟨gb125, 0, none⟩ = some (.int .i64 t121) := (blk_cell BK125.out 0).trans rfl
                        have hcz130_1 : wc.cell? ⟨gb125, 1, none⟩ = some (.int .i64 t122) := (blk_cell BK125.out 1).trans rfl
                        have hcz130_2 : wc.cell? ⟨gb125, 2, none⟩ = some (.int .i64 t123) := (blk_cell BK125.out 2).trans rfl
                        have hfz130_0 := blk_frozen BK125.out 0
                        have hfz130_1 := blk_frozen BK125.out 1
                        have hfz130_2 := blk_frozen BK125.out 2
                        go_wp2
                        go_ret
                        exact ⟨by first | rfl | (simp [errW_none, errW_some] <;> rfl) | (simp [*, errW_none, errW_some] <;> rfl), by repeat (first | (with_reducible first | exact HB.out | apply below_alloc | apply pw_below_drewN | apply below_drew1 | refine below_set ?_ GE125.out | refine below_set ?_ GE130.out) | exact HB.out)⟩
                  · rw [if_neg c119] at H
                    have c119b0 : (t128 == 1) = false := beq_eq_false_iff_ne.mpr c119
                    have c119b1 : (t128 != 1) = true := bne_iff_ne.mpr c119
                    by_cases c131 : t128 = (wrap64 (t123 + 1))
                    · rw [if_pos c131] at H
                      have c131b0 : (t128 == (wrap64 (t123 + 1))) = true := beq_iff_eq.mpr c131
                      have c131b1 : (t128 != (wrap64 (t123 + 1))) = false := bne_eq_false_iff_eq.mpr c131
                      clear c131
                      have H1 : (some false) = some r := by rw [if_pos rfl] at H; exact H
                      clear H
                      have H := H1
                      clear H1
                      obtain rfl := Option.some.inj H
                      have hnb132 := NB130_125.out
                      have hnc132 := NB125_130.out
                      have hcz133_0 : wc.cell? ⟨gb130, 0, none⟩ = some (.int .i64 t126) := (blk_cell BK130.out 0).trans rfl
                      have hcz133_1 : wc.cell? ⟨gb130, 1, none⟩ = some (.int .i64 t127) := (blk_cell BK130.out 1).trans rfl
                      have hcz133_2 : wc.cell? ⟨gb130, 2, none⟩ = some (.int .i64 t128) := (blk_cell BK130.out 2).trans rfl
                      have hfz133_0 := blk_frozen BK130.out 0
                      have hfz133_1 := blk_frozen BK130.out 1
                      have hfz133_2 := blk_frozen BK130.out 2
                      have hcz134_0 : wc.cell? ⟨gb125, 0, none⟩ = some (.int .i64 t121) := (blk_cell BK125.out 0).trans rfl
                      have hcz134_1 : wc.cell? ⟨gb125, 1, none⟩ = some (.int .i64 t122) := (blk_cell BK125.out 1).trans rfl
                      have hcz134_2 : wc.cell? ⟨gb125, 2, none⟩ = some (.int .i64 t123) := (blk_cell BK125.out 2).trans rfl
                      have hfz134_0 := blk_frozen BK125.out 0
                      have hfz134_1 := blk_frozen BK125.out 1
                      have hfz134_2 := blk_frozen BK125.out 2
                      go_wp2
                      go_ret
                      exact ⟨by first | rfl | (simp [errW_none, errW_some] <;> rfl) | (simp [*, errW_none, errW_some] <;> rfl), by repeat (first | (with_reducible first | exact HB.out | apply below_alloc | apply pw_below_drewN | apply below_drew1 | refine below_set ?_ GE125.out | refine below_set ?_ GE130.out) | exact HB.out)⟩
                    · rw [if_neg c131] at H
                      have c131b0 : (t128 == (wrap64 (t123 + 1))) = false := beq_eq_false_iff_ne.mpr c131
                      have c131b1 : (t128 != (wrap64 (t123 + 1))) = true := bne_iff_ne.mpr c131
                      have H1 : (some false) = some r := by rw [if_pos rfl] at H; exact H
                      clear H
                      have H := H1
                      clear H1
                      obtain rfl := Option.some.inj H
                      have hnb135 := NB130_125.out
                      have hnc135 := NB125_130.out
                      have hcz136_0 : wc.cell? ⟨gb130, 0, none⟩ = some (.int .i64 t126) := (blk_cell BK130.out 0).trans rfl
                      have hcz136_1 : wc.cell? ⟨gb130, 1, none⟩ = some (.int .i64 t127) := (blk_cell BK130.out 1).trans rfl
                      have hcz136_2 : wc.cell? ⟨gb130, 2, none⟩ = some (.int .i64 t128) := (blk_cell BK130.out 2).trans rfl
                      have hfz136_0 := blk_frozen BK130.out 0
                      have hfz136_1 := blk_frozen BK130.out 1
                      have hfz136_2 := blk_frozen BK130.out 2
                      have hcz137_0 : wc.cell? ⟨gb125, 0, none⟩ = some (.int .i64 t121) := (blk_cell BK125.out 0).trans rfl
                      have hcz137_1 : wc.cell? ⟨gb125, 1, none⟩ = some (.int .i64 t122) := (blk_cell BK125.out 1).trans rfl
                      have hcz137_2 : wc.cell? ⟨gb125, 2, none⟩ = some (.int .i64 t123) := (blk_cell BK125.out 2).trans rfl
                      have hfz137_0 := blk_frozen BK125.out 0
                      have hfz137_1 := blk_frozen BK125.out 1
                      have hfz137_2 := blk_frozen BK125.out 2
                      go_wp2
                      go_ret
                      exact ⟨by first | rfl | (simp [errW_none, errW_some] <;> rfl) | (simp [*, errW_none, errW_some] <;> rfl), by repeat (first | (with_reducible first | exact HB.out | apply below_alloc | apply pw_below_drewN | apply below_drew1 | refine below_set ?_ GE125.out | refine below_set ?_ GE130.out) | exact HB.out)⟩
            · rw [if_neg c54] at H
              have c54b0 : (t126 == t121) = false := beq_eq_false_iff_ne.mpr c54
              have c54b1 : (t126 != t121) = true := bne_iff_ne.mpr c54
              by_cases c138 : t128 = 1
              · rw [if_pos c138] at H
                have c138b0 : (t128 == 1) = true := beq_iff_eq.mpr c138
                have c138b1 : (t128 != 1) = false := bne_eq_false_iff_eq.mpr c138
                clear c138
                by_cases c139 : t123 ≥ 28
                · rw [if_pos c139] at H
                  have c139b0 : decide (28 ≤ t123) = true := decide_eq_true c139
                  clear c139
                  have H1 : (some false) = some r := by rw [if_pos rfl] at H; exact H
                  clear H
                  have H := H1
                  clear H1
                  obtain rfl := Option.some.inj H
                  have hnb140 := NB130_125.out
                  have hnc140 := NB125_130.out
                  have hcz141_0 : wc.cell? ⟨gb130, 0, none⟩ = some (.int .i64 t126) := (blk_cell BK130.out 0).trans rfl
                  have hcz141_1 : wc.cell? ⟨gb130, 1, none⟩ = some (.int .i64 t127) := (blk_cell BK130.out 1).trans rfl
                  have hcz141_2 : wc.cell? ⟨gb130, 2, none⟩ = some (.int .i64 t128) := (blk_cell BK130.out 2).trans rfl
                  have hfz141_0 := blk_frozen BK130.out 0
                  have hfz141_1 := blk_frozen BK130.out 1
                  have hfz141_2 := blk_frozen BK130.out 2
                  have hcz142_0 : wc.cell? ⟨gb125, 0, none⟩ = some (.int .i64 t121) := (blk_cell BK125.out 0).trans rfl
                  have hcz142_1 : wc.cell? ⟨gb125, 1, none⟩ = some (.int .i64 t122) := (blk_cell BK125.out 1).trans rfl
                  have hcz142_2 : wc.cell? ⟨gb125, 2, none⟩ = some (.int .i64 t123) := (blk_cell BK125.out 2).trans rfl
                  have hfz142_0 := blk_frozen BK125.out 0
                  have hfz142_1 := blk_frozen BK125.out 1
                  have hfz142_2 := blk_frozen BK125.out 2
                  go_wp2
                  go_ret
                  exact ⟨by first | rfl | (simp [errW_none, errW_some] <;> rfl) | (simp [*, errW_none, errW_some] <;> rfl), by repeat (first | (with_reducible first | exact HB.out | apply below_alloc | apply pw_below_drewN | apply below_drew1 | refine below_set ?_ GE125.out | refine below_set ?_ GE130.out) | exact HB.out)⟩
                · rw [if_neg c139] at H
                  have c139b0 : decide (28 ≤ t123) = false := decide_eq_false c139
                  clear c139
                  by_cases c143 : t128 = (wrap64 (t123 + 1))
                  · rw [if_pos c143] at H
                    have c143b0 : (t128 == (wrap64 (t123 + 1))) = true := beq_iff_eq.mpr c143
                    have c143b1 : (t128 != (wrap64 (t123 + 1))) = false := bne_eq_false_iff_eq.mpr c143
                    clear c143
                    have H1 : (some false) = some r := by rw [if_pos rfl] at H; exact H
                    clear H
                    have H := H1
                    clear H1
                    obtain rfl := Option.some.inj H
                    have hnb144 := NB130_125.out
                    have hnc144 := NB125_130.out
                    have hcz145_0 : wc.cell? ⟨gb130, 0, none⟩ = some (.int .i64 t126) := (blk_cell BK130.out 0).trans rfl
                    have hcz145_1 : wc.cell? ⟨gb130, 1, none⟩ = some (.int .i64 t127) := (blk_cell BK130.out 1).trans rfl
                    have hcz145_2 : wc.cell? ⟨gb130, 2, none⟩ = some (.int .i64 t128) := (blk_cell BK130.out 2).trans rfl
                    have hfz145_0 := blk_frozen BK130.out 0
                    have hfz145_1 := blk_frozen BK130.out 1
                    have hfz145_2 := blk_frozen BK130.out 2
                    have hcz146_0 : wc.cell? ⟨gb125, 0, none⟩ = some (.int .i64 t121) := (blk_cell BK125.out 0).trans rfl
                    have hcz146_1 : wc.cell? ⟨gb125, 1, none⟩ = some (.int .i64 t122) := (blk_cell BK125.out 1).trans rfl
                    have hcz146_2 : wc.cell? ⟨gb125, 2, none⟩ = some (.int .i64 t123) := (blk_cell BK125.out 2).trans rfl
                    have hfz146_0 := blk_frozen BK125.out 0
                    have hfz146_1 := blk_frozen BK125.out 1
                    have hfz146_2 := blk_frozen BK125.out 2
                    go_wp2
                    go_ret
                    exact ⟨by first | rfl | (simp [errW_none, errW_some] <;> rfl) | (simp [*, errW_none, errW_some] <;> rfl), by repeat (first | (with_reducible first | exact HB.out | apply below_alloc | apply pw_below_drewN | apply below_drew1 | refine below_set ?_ GE125.out | refine below_set ?_ GE130.out) | exact HB.out)⟩
                  · rw [if_neg c143] at H
                    have c143b0 : (t128 == (wrap64 (t123 + 1))) = false := beq_eq_false_iff_ne.mpr c143
                    have c143b1 : (t128 != (wrap64 (t123 + 1))) = true := bne_iff_ne.mpr c143
                    have H1 : (some false) = some r := by rw [if_pos rfl] at H; exact H
                    clear H
                    have H := H1
                    clear H1
                    obtain rfl := Option.some.inj H
                    have hnb147 := NB130_125.out
                    have hnc147 := NB125_130.out
                    have hcz148_0 : wc.cell? ⟨gb130, 0, none⟩ = some (.int .i64 t126) := (blk_cell BK130.out 0).trans rfl
                    have hcz148_1 : wc.cell? ⟨gb130, 1, none⟩ = some (.int .i64 t127) := (blk_cell BK130.out 1).trans rfl
                    have hcz148_2 : wc.cell? ⟨gb130, 2, none⟩ = some (.int .i64 t128) := (blk_cell BK130.out 2).trans rfl
                    have hfz148_0 := blk_frozen BK130.out 0
                    have hfz148_1 := blk_frozen BK130.out 1
                    have hfz148_2 := blk_frozen BK130.out 2
                    have hcz149_0 : wc.cell? ⟨gb125, 0, none⟩ = some (.int .i64 t121) := (blk_cell BK125.out 0).trans rfl
                    have hcz149_1 : wc.cell? ⟨gb125, 1, none⟩ = some (.int .i64 t122) := (blk_cell BK125.out 1).trans rfl
                    have hcz149_2 : wc.cell? ⟨gb125, 2, none⟩ = some (.int .i64 t123) := (blk_cell BK125.out 2).trans rfl
                    have hfz149_0 := blk_frozen BK125.out 0
                    have hfz149_1 := blk_frozen BK125.out 1
                    have hfz149_2 := blk_frozen BK125.out 2
                    go_wp2
                    go_ret
                    exact ⟨by first | rfl | (simp [errW_none, errW_some] <;> rfl) | (simp [*, errW_none, errW_some] <;> rfl), by repeat (first | (with_reducible first | exact HB.out | apply below_alloc | apply pw_below_drewN | apply below_drew1 | refine below_set ?_ GE125.out | refine below_set ?_ GE130.out) | exact HB.out)⟩
              · rw [if_neg c138] at H
                have c138b0 : (t128 == 1) = false := beq_eq_false_iff_ne.mpr c138
                have c138b1 : (t128 != 1) = true := bne_iff_ne.mpr c138
                by_cases c150 : t128 = (wrap64 (t123 + 1))
                · rw [if_pos c150] at H
                  have c150b0 : (t128 == (wrap64 (t123 + 1))) = true := beq_iff_eq.mpr c150
                  have c150b1 : (t128 != (wrap64 (t123 + 1))) = false := bne_eq_false_iff_eq.mpr c150
                  clear c150
                  have H1 : (some false) = some r := by rw [if_pos rfl] at H; exact H
                  clear H
                  have H := H1
                  clear H1
                  obtain rfl := Option.some.inj H
                  have hnb151 := NB130_125.out
                  have hnc151 := NB125_130.out
                  have hcz152_0 : wc.cell? ⟨gb130, 0, none⟩ = some (.int .i64 t126) := (blk_cell BK130.out 0).trans rfl
                  have hcz152_1 : wc.cell? ⟨gb130, 1, none⟩ = some (.int .i64 t127) := (blk_cell BK130.out 1).trans rfl
                  have hcz152_2 : wc.cell? ⟨gb130, 2, none⟩ = some (.int .i64 t128) := (blk_cell BK130.out 2).trans rfl
                  have hfz152_0 := blk_frozen BK130.out 0
                  have hfz152_1 := blk_frozen BK130.out 1
                  have hfz152_2 := blk_frozen BK130.out 2
                  have hcz153_0 : wc.cell? ⟨gb125, 0, none⟩ = some (.int .i64 t121) := (blk_cell BK125.out 0).trans rfl
                  have hcz153_1 : wc.cell? ⟨gb125, 1, none⟩ = some (.int .i64 t122) := (blk_cell BK125.out 1).trans rfl
                  have hcz153_2 : wc.cell? ⟨gb125, 2, none⟩ = some (.int .i64 t123) := (blk_cell BK125.out 2).trans rfl
                  have hfz153_0 := blk_frozen BK125.out 0
                  have hfz153_1 := blk_frozen BK125.out 1
                  have hfz153_2 := blk_frozen BK125.out 2
                  go_wp2
                  go_ret
                  exact ⟨by first | rfl | (simp [errW_none, errW_some] <;> rfl) | (simp [*, errW_none, errW_some] <;> rfl), by repeat (first | (with_reducible first | exact HB.out | apply below_alloc | apply pw_below_drewN | apply below_drew1 | refine below_set ?_ GE125.out | refine below_set ?_ GE130.out) | exact HB.out)⟩
                · rw [if_neg c150] at H
                  have c150b0 : (t128 == (wrap64 (t123 + 1))) = false := beq_eq_false_iff_ne.mpr c150
                  have c150b1 : (t128 != (wrap64 (t123 + 1))) = true := bne_iff_ne.mpr c150
                  have H1 : (some false) = some r := by rw [if_pos rfl] at H; exact H
                  clear H
                  have H := H1
                  clear H1
                  obtain rfl := Option.some.inj H
                  have hnb154 := NB130_125.out
                  have hnc154 := NB125_130.out
                  have hcz155_0 : wc.cell? ⟨gb130, 0, none⟩ = some (.int .i64 t126) := (blk_cell BK130.out 0).trans rfl
                  have hcz155_1 : wc.cell? ⟨gb130, 1, none⟩ = some (.int .i64 t127) := (blk_cell BK130.out 1).trans rfl
                  have hcz155_2 : wc.cell? ⟨gb130, 2, none⟩ = some (.int .i64 t128) := (blk_cell BK130.out 2).trans rfl
                  have hfz155_0 := blk_frozen BK130.out 0
                  have hfz155_1 := blk_frozen BK130.out 1
                  have hfz155_2 := blk_frozen BK130.out 2
                  have hcz156_0 : wc.cell? ⟨gb125, 0, none⟩ = some (.int .i64 t121) := (blk_cell BK125.out 0).trans rfl
                  have hcz156_1 : wc.cell? ⟨gb125, 1, none⟩ = some (.int .i64 t122) := (blk_cell BK125.out 1).trans rfl
                  have hcz156_2 : wc.cell? ⟨gb125, 2, none⟩ = some (.int .i64 t123) := (blk_cell BK125.out 2).trans rfl
                  have hfz156_0 := blk_frozen BK125.out 0
                  have hfz156_1 := blk_frozen BK125.out 1
                  have hfz156_2 := blk_frozen BK125.out 2
                  go_wp2
                  go_ret
                  exact ⟨by first | rfl | (simp [errW_none, errW_some] <;> rfl) | (simp [*, errW_none, errW_some] <;> rfl), by repeat (first | (with_reducible first | exact HB.out | apply below_alloc | apply pw_below_drewN | apply below_drew1 | refine below_set ?_ GE125.out | refine below_set ?_ GE130.out) | exact HB.out)⟩
  · replace c3 := Bool.eq_false_iff.mpr c3
    subst c3
    have H1 : (some false) = some r := by rw [if_neg (show ¬ (false = true) by decide)] at H; exact H
    clear H
    have H := H1
    clear H1
    obtain rfl := Option.some.inj H
    go_enter Tryd.func7, Tryd.ntmps7
    go_wp2_with (first | ((with_reducible refine gate_callee (f := 9) rfl ?_); refine goesL_ (some 12) rfl rfl Tryd.func9 (by kernel_rfl) rfl #[] rfl (by (try simp only [List.map_toArray, List.map_cons, List.map_nil]); first | done | rfl | (simp only [List.length_drop, List.length_take]; rfl)) ?_; (with_reducible refine (pledgelaw4_first.calls k  false _ ?side1 A2.out).mono ?_); (case side1 => exact GlobOK.below HG.out (by repeat (first | (with_reducible first | exact HB.out | apply below_alloc | apply pw_below_drewN | apply below_drew1) | exact HB.out))); rintro e w157 ⟨rfl, hb⟩; refine ⟨_, rfl, ?_⟩; have n0_ := Aside0.mk (below_step (by repeat (first | (with_reducible first | exact HB.out | apply below_alloc | apply pw_below_drewN | apply below_drew1) | exact HB.out)) hb); clear HB; have HB := n0_; clear n0_; (try clear hb); (try clear hb2); (try clear hk); (try clear hi)))
    go_ret
    exact ⟨by first | rfl | (simp [errW_none, errW_some] <;> rfl) | (simp [*, errW_none, errW_some] <;> rfl), by repeat (first | (with_reducible first | exact HB.out | apply below_alloc | apply pw_below_drewN | apply below_drew1) | exact HB.out)⟩

/-- The pure statement of pledgelaw4_DayBack: numbers and lists alone. -/
def pledgelaw4_DayBack.Pure : Prop := ∀ (a0 : Int), Rng .i64 a0 → ∃ k, pledgelaw4_DayBack.f k a0 = some true

end Go.Proofs.YtobgpafdebiphaaDoor.EDayBack
