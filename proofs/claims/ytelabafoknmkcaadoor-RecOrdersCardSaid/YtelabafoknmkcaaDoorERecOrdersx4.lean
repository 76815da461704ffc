/- The functions that the law comes to, as plain functions, and for each a proof that the Go code comes to just these answers. Written by a program of this claim. Conditions: each theorem bears its own. -/
import Derived.Test.YtelabafoknmkcaaDoorERecOrdersx0
import Derived.Test.YtelabafoknmkcaaDoorERecOrdersx1
import Derived.Test.YtelabafoknmkcaaDoorERecOrdersx2
import Derived.Test.YtelabafoknmkcaaDoorERecOrdersx3
namespace Go.Proofs.YtelabafoknmkcaaDoor.ERecOrders
open Go.RowKit Go.Proofs.YtelabafoknmkcaaDoorW.PrintWords Go.Proofs.YtelabafoknmkcaaDoorW.PrintLast Go.Proofs.YtelabafoknmkcaaDoorW.PrintMore Go.Proofs.YtelabafoknmkcaaDoorW.PrintOpen
attribute [local go_sem] max2_int min2_int max_two min_two max_three min_three max_four min_four   -- for this text's walks alone
set_option linter.unusedVariables false
set_option linter.unusedSimpArgs false

/-! ### pledgelaw9_RecOrders: function 4 -/
mutual
def pledgelaw9_RecOrders.j0 : Nat → Bool → List Int → List Int → Bool → Int → Int → Int → Int → Int → Int → Option (Bool)
  | 0, _, _, _, _, _, _, _, _, _, _ => none
  | k + 1, x5, x6, x8, x31, x150000, x150001, x150002, x151000, x151001, x151002 => if x31 = true then (some x5) else ((rec_Read.f k x6).bind fun bt162 => (if x150000 < x151000 then (pledgelaw9_RecOrders.j1 k x5 x6 x8 bt162.2.2.2 true x150000 x150001 x150002 x151000 x151001 x151002 bt162.1 bt162.2.1 bt162.2.2.1) else (if x150000 = x151000 then (if x150001 < x151001 then (pledgelaw9_RecOrders.j1 k x5 x6 x8 bt162.2.2.2 true x150000 x150001 x150002 x151000 x151001 x151002 bt162.1 bt162.2.1 bt162.2.2.1) else (if x150001 = x151001 then (pledgelaw9_RecOrders.j1 k x5 x6 x8 bt162.2.2.2 (decide (x150002 < x151002)) x150000 x150001 x150002 x151000 x151001 x151002 bt162.1 bt162.2.1 bt162.2.2.1) else (pledgelaw9_RecOrders.j1 k x5 x6 x8 bt162.2.2.2 false x150000 x150001 x150002 x151000 x151001 x151002 bt162.1 bt162.2.1 bt162.2.2.1))) else (pledgelaw9_RecOrders.j1 k x5 x6 x8 bt162.2.2.2 false x150000 x150001 x150002 x151000 x151001 x151002 bt162.1 bt162.2.1 bt162.2.2.1))))
def pledgelaw9_RecOrders.j1 : Nat → Bool → List Int → List Int → Option Int → Bool → Int → Int → Int → Int → Int → Int → Int → Int → Int → Option (Bool)
  | 0, _, _, _, _, _, _, _, _, _, _, _, _, _, _ => none
  | k + 1, x5, x6, x8, x11, x12, x150000, x150001, x150002, x151000, x151001, x151002, x167000, x167001, x167002 => if x5 = true then (if x11.isNone = true then (if x167000 = x150000 then (if x167001 = x150001 then (if x167002 = x150002 then ((rec_Less.f k x150000 x150001 x150002 x151000 x151001 x151002).bind fun t168 => (if (t168 == x12) = true then ((pledgeref_Ahead.f k x6 x8).bind fun t169 => (pledgelaw9_RecOrders.j2 k (t169 == x12))) else (pledgelaw9_RecOrders.j2 k false))) else (pledgelaw9_RecOrders.j2 k false)) else (pledgelaw9_RecOrders.j2 k false)) else (pledgelaw9_RecOrders.j2 k false)) else (pledgelaw9_RecOrders.j2 k false)) else (pledgelaw9_RecOrders.j2 k false)
def pledgelaw9_RecOrders.j2 : Nat → Bool → Option (Bool)
  | 0, _ => none
  | k + 1, x4 => some x4
end
def pledgelaw9_RecOrders.f (k : Nat) (a0_0 : Int) (a0_1 : Int) (a0_2 : Int) (a1_0 : Int) (a1_1 : Int) (a1_2 : Int) : Option (Bool) := (pledgelaw9_first.f k).bind fun t151 => (if t151 = true then ((rec_Key.f k a0_0 a0_1 a0_2).bind fun bt152 => ((rec_Key.f k a1_0 a1_1 a1_2).bind fun bt156 => (if bt152.2.isNone = true then (if bt156.2.isNone = true then (pledgelaw9_RecOrders.j0 k t151 bt152.1 bt156.1 false a0_0 a0_1 a0_2 a1_0 a1_1 a1_2) else (pledgelaw9_RecOrders.j0 k t151 bt152.1 bt156.1 true a0_0 a0_1 a0_2 a1_0 a1_1 a1_2)) else (pledgelaw9_RecOrders.j0 k t151 bt152.1 bt156.1 true a0_0 a0_1 a0_2 a1_0 a1_1 a1_2)))) else (some false))
theorem pledgelaw9_RecOrders.mono_l : ∀ k, (∀ y0 y1 y2 y3 y4 y5 y6 y7 y8 y9, LeO (pledgelaw9_RecOrders.j0 k y0 y1 y2 y3 y4 y5 y6 y7 y8 y9) (pledgelaw9_RecOrders.j0 (k + 1) y0 y1 y2 y3 y4 y5 y6 y7 y8 y9)) ∧ (∀ y0 y1 y2 y3 y4 y5 y6 y7 y8 y9 y10 y11 y12 y13, LeO (pledgelaw9_RecOrders.j1 k y0 y1 y2 y3 y4 y5 y6 y7 y8 y9 y10 y11 y12 y13) (pledgelaw9_RecOrders.j1 (k + 1) y0 y1 y2 y3 y4 y5 y6 y7 y8 y9 y10 y11 y12 y13)) ∧ (∀ y0, LeO (pledgelaw9_RecOrders.j2 k y0) (pledgelaw9_RecOrders.j2 (k + 1) y0))
  | 0 => ⟨fun _ _ _ _ _ _ _ _ _ _ r h => by simp [pledgelaw9_RecOrders.j0] at h, fun _ _ _ _ _ _ _ _ _ _ _ _ _ _ r h => by simp [pledgelaw9_RecOrders.j1] at h, fun _ r h => by simp [pledgelaw9_RecOrders.j2] at h⟩
  | k + 1 => by
    obtain ⟨ih0, ih1, ih2⟩ := pledgelaw9_RecOrders.mono_l k
    refine ⟨?_, ?_, ?_⟩
    · intro y0 y1 y2 y3 y4 y5 y6 y7 y8 y9
      unfold pledgelaw9_RecOrders.j0
      repeat' first
      | (with_reducible exact ih0 _ _ _ _ _ _ _ _ _ _)
      | (with_reducible exact ih1 _ _ _ _ _ _ _ _ _ _ _ _ _ _)
      | (with_reducible exact ih2 _)
      | (with_reducible exact pledgelaw9_first.mono _)
      | (with_reducible exact pledgeref_Ahead.mono _ _ _)
      | (with_reducible exact rec_Key.mono _ _ _ _)
      | (with_reducible exact rec_Less.mono _ _ _ _ _ _ _)
      | (with_reducible exact rec_Read.mono _ _)
      | (with_reducible exact LeO.refl _)
      | (with_reducible exact LeO.none _)
      | (with_reducible refine LeO.ite ?_ ?_)
      | (with_reducible refine LeO.bind ?_ (fun _ => ?_))
      | exact ih0 _ _ _ _ _ _ _ _ _ _
      | exact ih1 _ _ _ _ _ _ _ _ _ _ _ _ _ _
      | exact ih2 _
      | exact pledgelaw9_first.mono _
      | exact pledgeref_Ahead.mono _ _ _
      | exact rec_Key.mono _ _ _ _
      | exact rec_Less.mono _ _ _ _ _ _ _
      | exact rec_Read.mono _ _
      | exact LeO.none _
      | refine LeO.ite ?_ ?_
      | refine LeO.bind ?_ (fun _ => ?_)
    · intro y0 y1 y2 y3 y4 y5 y6 y7 y8 y9 y10 y11 y12 y13
      unfold pledgelaw9_RecOrders.j1
      repeat' first
      | (with_reducible exact ih0 _ _ _ _ _ _ _ _ _ _)
      | (with_reducible exact ih1 _ _ _ _ _ _ _ _ _ _ _ _ _ _)
      | (with_reducible exact ih2 _)
      | (with_reducible exact pledgelaw9_first.mono _)
      | (with_reducible exact pledgeref_Ahead.mono _ _ _)
      | (with_reducible exact rec_Key.mono _ _ _ _)
      | (with_reducible exact rec_Less.mono _ _ _ _ _ _ _)
      | (with_reducible exact rec_Read.mono _ _)
      | (with_reducible exact LeO.refl _)
      | (with_reducible exact LeO.none _)
      | (with_reducible refine LeO.ite ?_ ?_)
      | (with_reducible refine LeO.bind ?_ (fun _ => ?_))
      | exact ih0 _ _ _ _ _ _ _ _ _ _
      | exact ih1 _ _ _ _ _ _ _ _ _ _ _ _ _ _
      | exact ih2 _
      | exact pledgelaw9_first.mono _
      | exact pledgeref_Ahead.mono _ _ _
      | exact rec_Key.mono _ _ _ _
      | exact rec_Less.mono _ _ _ _ _ _ _
      | exact rec_Read.mono _ _
      | exact LeO.none _
      | refine LeO.ite ?_ ?_
      | refine LeO.bind ?_ (fun _ => ?_)
    · intro y0
      unfold pledgelaw9_RecOrders.j2
      repeat' first
      | (with_reducible exact ih0 _ _ _ _ _ _ _ _ _ _)
      | (with_reducible exact ih1 _ _ _ _ _ _ _ _ _ _ _ _ _ _)
      | (with_reducible exact ih2 _)
      | (with_reducible exact pledgelaw9_first.mono _)
      | (with_reducible exact pledgeref_Ahead.mono _ _ _)
      | (with_reducible exact rec_Key.mono _ _ _ _)
      | (with_reducible exact rec_Less.mono _ _ _ _ _ _ _)
      | (with_reducible exact rec_Read.mono _ _)
      | (with_reducible exact LeO.refl _)
      | (with_reducible exact LeO.none _)
      | (with_reducible refine LeO.ite ?_ ?_)
      | (with_reducible refine LeO.bind ?_ (fun _ => ?_))
      | exact ih0 _ _ _ _ _ _ _ _ _ _
      | exact ih1 _ _ _ _ _ _ _ _ _ _ _ _ _ _
      | exact ih2 _
      | exact pledgelaw9_first.mono _
      | exact pledgeref_Ahead.mono _ _ _
      | exact rec_Key.mono _ _ _ _
      | exact rec_Less.mono _ _ _ _ _ _ _
      | exact rec_Read.mono _ _
      | exact LeO.none _
      | refine LeO.ite ?_ ?_
      | refine LeO.bind ?_ (fun _ => ?_)
theorem pledgelaw9_RecOrders.mono : ∀ a0 a1 a2 a3 a4 a5 k, LeO (pledgelaw9_RecOrders.f k a0 a1 a2 a3 a4 a5) (pledgelaw9_RecOrders.f (k + 1) a0 a1 a2 a3 a4 a5) := by
  intro a0 a1 a2 a3 a4 a5 k
  obtain ⟨ih0, ih1, ih2⟩ := pledgelaw9_RecOrders.mono_l k
  unfold pledgelaw9_RecOrders.f
  repeat' first
      | (with_reducible exact ih0 _ _ _ _ _ _ _ _ _ _)
      | (with_reducible exact ih1 _ _ _ _ _ _ _ _ _ _ _ _ _ _)
      | (with_reducible exact ih2 _)
      | (with_reducible exact pledgelaw9_first.mono _)
      | (with_reducible exact pledgeref_Ahead.mono _ _ _)
      | (with_reducible exact rec_Key.mono _ _ _ _)
      | (with_reducible exact rec_Less.mono _ _ _ _ _ _ _)
      | (with_reducible exact rec_Read.mono _ _)
      | (with_reducible exact LeO.refl _)
      | (with_reducible exact LeO.none _)
      | (with_reducible refine LeO.ite ?_ ?_)
      | (with_reducible refine LeO.bind ?_ (fun _ => ?_))
      | exact ih0 _ _ _ _ _ _ _ _ _ _
      | exact ih1 _ _ _ _ _ _ _ _ _ _ _ _ _ _
      | exact ih2 _
      | exact pledgelaw9_first.mono _
      | exact pledgeref_Ahead.mono _ _ _
      | exact rec_Key.mono _ _ _ _
      | exact rec_Less.mono _ _ _ _ _ _ _
      | exact rec_Read.mono _ _
      | exact LeO.none _
      | refine LeO.ite ?_ ?_
      | refine LeO.bind ?_ (fun _ => ?_)
set_option maxHeartbeats 8000000 in
set_option maxRecDepth 100000 in
theorem pledgelaw9_RecOrders.calls [Inhabited (Int → Addr)] (k : Nat) (a0_0 : Int) (a0_1 : Int) (a0_2 : Int) (a1_0 : Int) (a1_1 : Int) (a1_2 : Int) (r : Bool) (w : World) (hG : GlobOK w) (h : pledgelaw9_RecOrders.f k a0_0 a0_1 a0_2 a1_0 a1_1 a1_2 = some r) :
    Calls Tryd.prog 4 #[.agg #[.int .i64 a0_0, .int .i64 a0_1, .int .i64 a0_2], .agg #[.int .i64 a1_0, .int .i64 a1_1, .int .i64 a1_2]] w fun e w' => e = .returned (.bool r) ∧ Below w.heap.size w w' := by
  have hu29 := Tryd.underlying29
  have hu25 := Tryd.underlying25
  have hu88 := Tryd.underlying88
  have HG := Aside0.mk hG
  clear hG
  have HB := Aside0.mk (Below.refl w.heap.size w)
  have H : ((pledgelaw9_first.f k).bind fun t151 => (if t151 = true then ((rec_Key.f k a0_0 a0_1 a0_2).bind fun bt152 => ((rec_Key.f k a1_0 a1_1 a1_2).bind fun bt156 => (if bt152.2.isNone = true then (if bt156.2.isNone = true then (pledgelaw9_RecOrders.j0 k t151 bt152.1 bt156.1 false a0_0 a0_1 a0_2 a1_0 a1_1 a1_2) else (pledgelaw9_RecOrders.j0 k t151 bt152.1 bt156.1 true a0_0 a0_1 a0_2 a1_0 a1_1 a1_2)) else (pledgelaw9_RecOrders.j0 k t151 bt152.1 bt156.1 true a0_0 a0_1 a0_2 a1_0 a1_1 a1_2)))) else (some false))) = some r := h
  clear h
  replace H := Option.bind_eq_some_iff.mp H
  obtain ⟨t151, A30, H⟩ := H
  replace H : (if t151 = true then ((rec_Key.f k a0_0 a0_1 a0_2).bind fun bt152 => ((rec_Key.f k a1_0 a1_1 a1_2).bind fun bt156 => (if bt152.2.isNone = true then (if bt156.2.isNone = true then (pledgelaw9_RecOrders.j0 k t151 bt152.1 bt156.1 false a0_0 a0_1 a0_2 a1_0 a1_1 a1_2) else (pledgelaw9_RecOrders.j0 k t151 bt152.1 bt156.1 true a0_0 a0_1 a0_2 a1_0 a1_1 a1_2)) else (pledgelaw9_RecOrders.j0 k t151 bt152.1 bt156.1 true a0_0 a0_1 a0_2 a1_0 a1_1 a1_2)))) else (some false)) = some r := H
  have A3 := Aside0.mk A30
  clear A30
  by_cases c4 : t151 = true
  · subst c4
    have H1 : ((rec_Key.f k a0_0 a0_1 a0_2).bind fun bt152 => ((rec_Key.f k a1_0 a1_1 a1_2).bind fun bt156 => (if bt152.2.isNone = true then (if bt156.2.isNone = true then (pledgelaw9_RecOrders.j0 k true bt152.1 bt156.1 false a0_0 a0_1 a0_2 a1_0 a1_1 a1_2) else (pledgelaw9_RecOrders.j0 k true bt152.1 bt156.1 true a0_0 a0_1 a0_2 a1_0 a1_1 a1_2)) else (pledgelaw9_RecOrders.j0 k true bt152.1 bt156.1 true a0_0 a0_1 a0_2 a1_0 a1_1 a1_2)))) = some r := by rw [if_pos rfl] at H; exact H
    clear H
    have H := H1
    clear H1
    replace H := Option.bind_eq_some_iff.mp H
    obtain ⟨⟨t152, t155⟩, A50, H⟩ := H
    replace H : ((rec_Key.f k a1_0 a1_1 a1_2).bind fun bt156 => (if t155.isNone = true then (if bt156.2.isNone = true then (pledgelaw9_RecOrders.j0 k true t152 bt156.1 false a0_0 a0_1 a0_2 a1_0 a1_1 a1_2) else (pledgelaw9_RecOrders.j0 k true t152 bt156.1 true a0_0 a0_1 a0_2 a1_0 a1_1 a1_2)) else (pledgelaw9_RecOrders.j0 k true t152 bt156.1 true a0_0 a0_1 a0_2 a1_0 a1_1 a1_2))) = some r := H
    have A5 := Aside0.mk A50
    clear A50
    replace H := Option.bind_eq_some_iff.mp H
    obtain ⟨⟨t156, t159⟩, A60, H⟩ := H
    replace H : (if t155.isNone = true then (if t159.isNone = true then (pledgelaw9_RecOrders.j0 k true t152 t156 false a0_0 a0_1 a0_2 a1_0 a1_1 a1_2) else (pledgelaw9_RecOrders.j0 k true t152 t156 true a0_0 a0_1 a0_2 a1_0 a1_1 a1_2)) else (pledgelaw9_RecOrders.j0 k true t152 t156 true a0_0 a0_1 a0_2 a1_0 a1_1 a1_2)) = some r := H
    have A6 := Aside0.mk A60
    clear A60
    have HC7 := Aside0.mk H
    clear H
    go_enter Tryd.func4, Tryd.ntmps4
    go_upto_region 6 with (first | ((with_reducible refine gate_dst (N := 2) rfl ?_); refine box_event ?hg (N := 2) ?hd (cs := #[.int .i64 a0_0, .int .i64 a0_1, .int .i64 a0_2]) (t := 29) ?hr ?_; (case hd => rfl); (case hg => rfl); (case hr => first | (go_simp; done) | (go_simp; rfl)); intro gb149 hg w8 hbox hb; have n0_ := Aside0.mk (below_step (by repeat (first | (with_reducible first | exact HB.out | apply below_alloc | apply pw_below_drewN | apply below_drew1) | exact HB.out)) hb); have n1_ := Aside0.mk (hbox); have n2_ := Aside0.mk ((by rw [hg]; exact (below_size (by repeat (first | (with_reducible first | exact HB.out | apply below_alloc | apply pw_below_drewN | apply below_drew1) | exact HB.out))) : w.heap.size ≤ gb149)); have n3_ := Aside0.mk ((by rw [hg]; exact (below_size (by repeat (first | (with_reducible first | exact HB.out | apply below_alloc | apply pw_below_drewN | apply below_drew1) | exact HB.out))) : w.heap.size ≤ gb149)); clear HB; have HB := n0_; have BK149 := n1_; have GW149 := n2_; have GE149 := n3_; clear n0_ n1_ n2_ n3_; clear hb hbox hg) | ((with_reducible refine gate_dst (N := 3) rfl ?_); refine box_event ?hg (N := 3) ?hd (cs := #[.int .i64 a1_0, .int .i64 a1_1, .int .i64 a1_2]) (t := 29) ?hr ?_; (case hd => rfl); (case hg => rfl); (case hr => first | (go_simp; done) | (go_simp; rfl)); intro gb150 hg w9 hbox hb; have n0_ := Aside0.mk (blk_below (g := gb149) (o := .cells #[.int .i64 a0_0, .int .i64 a0_1, .int .i64 a0_2] 29 (0, 0)) (by (with_reducible repeat (first | refine blk_drewN ?_ _ | refine blk_drew ?_ | refine blk_alloc ?_ _)); exact BK149.out) hb); have n1_ := Aside0.mk (below_step (by repeat (first | (with_reducible first | exact HB.out | apply below_alloc | apply pw_below_drewN | apply below_drew1 | refine below_set ?_ GE149.out) | exact HB.out)) hb); have n2_ := Aside0.mk (hbox); have n3_ := Aside0.mk ((by rw [hg]; exact (below_size (by repeat (first | (with_reducible first | exact HB.out | apply below_alloc | apply pw_below_drewN | apply below_drew1 | refine below_set ?_ GE149.out) | exact HB.out))) : w.heap.size ≤ gb150)); have n4_ := Aside0.mk ((by rw [hg]; exact (below_size (by repeat (first | (with_reducible first | exact HB.out | apply below_alloc | apply pw_below_drewN | apply below_drew1 | refine below_set ?_ GE149.out) | exact HB.out))) : w.heap.size ≤ gb150)); have n5_ := Aside0.mk ((by rw [hg]; exact Nat.ne_of_lt (blk_lt (g := gb149) (o := .cells #[.int .i64 a0_0, .int .i64 a0_1, .int .i64 a0_2] 29 (0, 0)) (by (with_reducible repeat (first | refine blk_drewN ?_ _ | refine blk_drew ?_ | refine blk_alloc ?_ _)); exact BK149.out)) : gb149 ≠ gb150)); have n6_ := Aside0.mk ((by rw [hg]; exact Nat.ne_of_gt (blk_lt (g := gb149) (o := .cells #[.int .i64 a0_0, .int .i64 a0_1, .int .i64 a0_2] 29 (0, 0)) (by (with_reducible repeat (first | refine blk_drewN ?_ _ | refine blk_drew ?_ | refine blk_alloc ?_ _)); exact BK149.out)) : gb150 ≠ gb149)); clear BK149; clear HB; have BK149 := n0_; have HB := n1_; have BK150 := n2_; have GW150 := n3_; have GE150 := n4_; have NB149_150 := n5_; have NB150_149 := n6_; clear n0_ n1_ n2_ n3_ n4_ n5_ n6_; clear hb hbox hg) | ((with_reducible refine gate_callee (f := 7) rfl ?_); refine goesL_ (some 13) rfl rfl Tryd.func7 (by kernel_rfl) rfl #[] rfl (by (try simp only [List.map_toArray, List.map_cons, List.map_nil]); first | done | rfl | (simp only [List.length_drop, List.length_take]; rfl)) ?_; (with_reducible refine (pledgelaw9_first.calls k  true _ ?side1 A3.out).mono ?_); (case side1 => exact GlobOK.below HG.out (by repeat (first | (with_reducible first | exact HB.out | apply below_alloc | apply pw_below_drewN | apply below_drew1 | refine below_set ?_ GE149.out | refine below_set ?_ GE150.out) | exact HB.out))); rintro e w10 ⟨rfl, hb⟩; refine ⟨_, rfl, ?_⟩; have n0_ := Aside0.mk (blk_below (g := gb149) (o := .cells #[.int .i64 a0_0, .int .i64 a0_1, .int .i64 a0_2] 29 (0, 0)) (by (with_reducible repeat (first | refine blk_drewN ?_ _ | refine blk_drew ?_ | refine blk_alloc ?_ _)); exact BK149.out) hb); have n1_ := Aside0.mk (blk_below (g := gb150) (o := .cells #[.int .i64 a1_0, .int .i64 a1_1, .int .i64 a1_2] 29 (0, 0)) (by (with_reducible repeat (first | refine blk_drewN ?_ _ | refine blk_drew ?_ | refine blk_alloc ?_ _)); exact BK150.out) hb); have n2_ := Aside0.mk (below_step (by repeat (first | (with_reducible first | exact HB.out | apply below_alloc | apply pw_below_drewN | apply below_drew1 | refine below_set ?_ GE149.out | refine below_set ?_ GE150.out) | exact HB.out)) hb); clear BK149; clear BK150; clear HB; have BK149 := n0_; have BK150 := n1_; have HB := n2_; clear n0_ n1_ n2_; (try clear hb); (try clear hb2); (try clear hk); (try clear hi); have hnb11 := NB149_150.out; have hnc11 := NB150_149.out; have hcz12_0 : w10.cell? ⟨gb149, 0, none⟩ = some (.int .i64 a0_0) := (blk_cell BK149.out 0).trans rfl; have hcz12_1 : w10.cell? ⟨gb149, 1, none⟩ = some (.int .i64 a0_1) := (blk_cell BK149.out 1).trans rfl; have hcz12_2 : w10.cell? ⟨gb149, 2, none⟩ = some (.int .i64 a0_2) := (blk_cell BK149.out 2).trans rfl; have hfz12_0 := blk_frozen BK149.out 0; have hfz12_1 := blk_frozen BK149.out 1; have hfz12_2 := blk_frozen BK149.out 2) | ((with_reducible refine gate_callee (f := 8) rfl ?_); refine goesL_ (some 18) rfl rfl Tryd.func8 (by kernel_rfl) rfl #[.agg #[.int .i64 a0_0, .int .i64 a0_1, .int .i64 a0_2]] rfl (by (try simp only [List.map_toArray, List.map_cons, List.map_nil]); first | done | rfl | (simp only [List.length_drop, List.length_take]; rfl)) ?_; (with_reducible refine (rec_Key.calls k a0_0 a0_1 a0_2 t152 t155 _ ?side1 A5.out).mono ?_); (case side1 => exact GlobOK.below HG.out (by repeat (first | (with_reducible first | exact HB.out | apply below_alloc | apply pw_below_drewN | apply below_drew1 | refine below_set ?_ GE149.out | refine below_set ?_ GE150.out) | exact HB.out))); rintro e w13 ⟨v153, rfl, ho0, hb⟩; refine ⟨_, rfl, ?_⟩; have n0_ := Aside0.mk (Kd.R_lower ho0 (below_size (by repeat (first | (with_reducible first | exact HB.out | apply below_alloc | apply pw_below_drewN | apply below_drew1 | refine below_set ?_ GE149.out | refine below_set ?_ GE150.out) | exact HB.out)))); have n1_ := Aside0.mk (blk_below (g := gb149) (o := .cells #[.int .i64 a0_0, .int .i64 a0_1, .int .i64 a0_2] 29 (0, 0)) (by (with_reducible repeat (first | refine blk_drewN ?_ _ | refine blk_drew ?_ | refine blk_alloc ?_ _)); exact BK149.out) hb); have n2_ := Aside0.mk (blk_below (g := gb150) (o := .cells #[.int .i64 a1_0, .int .i64 a1_1, .int .i64 a1_2] 29 (0, 0)) (by (with_reducible repeat (first | refine blk_drewN ?_ _ | refine blk_drew ?_ | refine blk_alloc ?_ _)); exact BK150.out) hb); have n3_ := Aside0.mk (below_step (by repeat (first | (with_reducible first | exact HB.out | apply below_alloc | apply pw_below_drewN | apply below_drew1 | refine below_set ?_ GE149.out | refine below_set ?_ GE150.out) | exact HB.out)) hb); clear BK149; clear BK150; clear HB; have HO154 := n0_; have BK149 := n1_; have BK150 := n2_; have HB := n3_; clear n0_ n1_ n2_ n3_; (try clear hb); (try clear hb2); (try clear hk); (try clear hi); (try clear ho0); (try simp only [errW_none, errW_some]); have hcz14_0 : w13.cell? ⟨gb150, 0, none⟩ = some (.int .i64 a1_0) := (blk_cell BK150.out 0).trans rfl; have hcz14_1 : w13.cell? ⟨gb150, 1, none⟩ = some (.int .i64 a1_1) := (blk_cell BK150.out 1).trans rfl; have hcz14_2 : w13.cell? ⟨gb150, 2, none⟩ = some (.int .i64 a1_2) := (blk_cell BK150.out 2).trans rfl; have hfz14_0 := blk_frozen BK150.out 0; have hfz14_1 := blk_frozen BK150.out 1; have hfz14_2 := blk_frozen BK150.out 2) | ((with_reducible refine gate_callee (f := 8) rfl ?_); refine goesL_ (some 23) rfl rfl Tryd.func8 (by kernel_rfl) rfl #[.agg #[.int .i64 a1_0, .int .i64 a1_1, .int .i64 a1_2]] rfl (by (try simp only [List.map_toArray, List.map_cons, List.map_nil]); first | done | rfl | (simp only [List.length_drop, List.length_take]; rfl)) ?_; (with_reducible refine (rec_Key.calls k a1_0 a1_1 a1_2 t156 t159 _ ?side1 A6.out).mono ?_); (case side1 => exact GlobOK.below HG.out (by repeat (first | (with_reducible first | exact HB.out | apply below_alloc | apply pw_below_drewN | apply below_drew1 | refine below_set ?_ GE149.out | refine below_set ?_ GE150.out) | exact HB.out))); rintro e w15 ⟨v157, rfl, ho0, hb⟩; refine ⟨_, rfl, ?_⟩; have n0_ := Aside0.mk (Kd.R_elder' (by (with_reducible repeat (first | apply Kd.R_alloc | apply Kd.R_drewN | apply Kd.R_drew)); exact HO154.out) (Kd.R_base ho0) hb); have n1_ := Aside0.mk (Kd.R_lower (Kd.R_new' ho0 (Kd.R_lt (by (with_reducible repeat (first | apply Kd.R_alloc | apply Kd.R_drewN | apply Kd.R_drew)); exact HO154.out))) (below_size (by repeat (first | (with_reducible first | exact HB.out | apply below_alloc | apply pw_below_drewN | apply below_drew1 | refine below_set ?_ GE149.out | refine below_set ?_ GE150.out) | exact HB.out)))); have n2_ := Aside0.mk (blk_below (g := gb149) (o := .cells #[.int .i64 a0_0, .int .i64 a0_1, .int .i64 a0_2] 29 (0, 0)) (by (with_reducible repeat (first | refine blk_drewN ?_ _ | refine blk_drew ?_ | refine blk_alloc ?_ _)); exact BK149.out) hb); have n3_ := Aside0.mk (blk_below (g := gb150) (o := .cells #[.int .i64 a1_0, .int .i64 a1_1, .int .i64 a1_2] 29 (0, 0)) (by (with_reducible repeat (first | refine blk_drewN ?_ _ | refine blk_drew ?_ | refine blk_alloc ?_ _)); exact BK150.out) hb); have n4_ := Aside0.mk (below_step (by repeat (first | (with_reducible first | exact HB.out | apply below_alloc | apply pw_below_drewN | apply below_drew1 | refine below_set ?_ GE149.out | refine below_set ?_ GE150.out) | exact HB.out)) hb); clear HO154; clear BK149; clear BK150; clear HB; have HO154 := n0_; have HO158 := n1_; have BK149 := n2_; have BK150 := n3_; have HB := n4_; clear n0_ n1_ n2_ n3_ n4_; (try clear hb); (try clear hb2); (try clear hk); (try clear hi); (try clear ho0); (try simp only [errW_none, errW_some])))
    (try simp only [Act.put, List.setIfInBounds_toArray, List.set_cons_zero, List.set_cons_succ])
    go_cut [31] (fun v31 wc => ∃ (kq : Nat) (x31_6 : Bool), v31 = .bool x31_6 ∧ Aside0 (pledgelaw9_RecOrders.j0 kq true t152 t156 x31_6 a0_0 a0_1 a0_2 a1_0 a1_1 a1_2 = some r) ∧ Aside0 (kq ≤ k) ∧ Aside0 (Kd.R (Kd.int .u8) 5 wc w.heap.size (fun k_ => some k_ ≠ (v157 : Value).ownBlock) v153 t152) ∧ Aside0 (Kd.R (Kd.int .u8) 5 wc w.heap.size (fun k_ => some k_ ≠ (v153 : Value).ownBlock) v157 t156) ∧ Aside0 (wc.heap[gb149]? = some (.cells #[.int .i64 a0_0, .int .i64 a0_1, .int .i64 a0_2] 29 (0, 0))) ∧ Aside0 (wc.heap[gb150]? = some (.cells #[.int .i64 a1_0, .int .i64 a1_1, .int .i64 a1_2] 29 (0, 0))) ∧ Aside0 (Below w.heap.size w wc))
    case first =>
      have H := HC7.out
      clear HC7
      rcases t155 with _ | q160
      · have H1 : (if t159.isNone = true then (pledgelaw9_RecOrders.j0 k true t152 t156 false a0_0 a0_1 a0_2 a1_0 a1_1 a1_2) else (pledgelaw9_RecOrders.j0 k true t152 t156 true a0_0 a0_1 a0_2 a1_0 a1_1 a1_2)) = some r := by rw [if_pos (show (none : Option Int).isNone = true by rfl)] at H; exact H
        clear H
        have H := H1
        clear H1
        try simp only [errW_none, errW_some]
        rcases t159 with _ | q161
        · have H1 : (pledgelaw9_RecOrders.j0 k true t152 t156 false a0_0 a0_1 a0_2 a1_0 a1_1 a1_2) = some r := by rw [if_pos (show (none : Option Int).isNone = true by rfl)] at H; exact H
          clear H
          have H := H1
          clear H1
          try simp only [errW_none, errW_some]
          have H' := Aside0.mk H
          clear H
          go_wp2
          go_meet
          case rel => exact ⟨_, (false), (by first | rfl | (simp; done) | (simp [*]; done)), H', ⟨by first | omega | exact Nat.le_refl _⟩, ⟨by (with_reducible repeat (first | apply Kd.R_alloc | apply Kd.R_drewN | apply Kd.R_drew)); exact Kd.R_mono HO154.out (fun _ hk => hk.2)⟩, ⟨by (with_reducible repeat (first | apply Kd.R_alloc | apply Kd.R_drewN | apply Kd.R_drew)); exact Kd.R_mono HO158.out (fun _ hk => hk.2)⟩, ⟨by (with_reducible repeat (first | refine blk_drewN ?_ _ | refine blk_drew ?_ | refine blk_alloc ?_ _)); exact BK149.out⟩, ⟨by (with_reducible repeat (first | refine blk_drewN ?_ _ | refine blk_drew ?_ | refine blk_alloc ?_ _)); exact BK150.out⟩, ⟨by repeat (first | (with_reducible first | exact HB.out | apply below_alloc | apply pw_below_drewN | apply below_drew1 | refine below_set ?_ GE149.out | refine below_set ?_ GE150.out) | exact HB.out)⟩⟩
        · have H1 : (pledgelaw9_RecOrders.j0 k true t152 t156 true a0_0 a0_1 a0_2 a1_0 a1_1 a1_2) = some r := by rw [if_neg (show ¬ (some q161).isNone = true by simp)] at H; exact H
          clear H
          have H := H1
          clear H1
          try simp only [errW_none, errW_some]
          have H' := Aside0.mk H
          clear H
          go_wp2
          go_meet
          case rel => exact ⟨_, (true), (by first | rfl | (simp; done) | (simp [*]; done)), H', ⟨by first | omega | exact Nat.le_refl _⟩, ⟨by (with_reducible repeat (first | apply Kd.R_alloc | apply Kd.R_drewN | apply Kd.R_drew)); exact Kd.R_mono HO154.out (fun _ hk => hk.2)⟩, ⟨by (with_reducible repeat (first | apply Kd.R_alloc | apply Kd.R_drewN | apply Kd.R_drew)); exact Kd.R_mono HO158.out (fun _ hk => hk.2)⟩, ⟨by (with_reducible repeat (first | refine blk_drewN ?_ _ | refine blk_drew ?_ | refine blk_alloc ?_ _)); exact BK149.out⟩, ⟨by (with_reducible repeat (first | refine blk_drewN ?_ _ | refine blk_drew ?_ | refine blk_alloc ?_ _)); exact BK150.out⟩, ⟨by repeat (first | (with_reducible first | exact HB.out | apply below_alloc | apply pw_below_drewN | apply below_drew1 | refine below_set ?_ GE149.out | refine below_set ?_ GE150.out) | exact HB.out)⟩⟩
      · have H1 : (pledgelaw9_RecOrders.j0 k true t152 t156 true a0_0 a0_1 a0_2 a1_0 a1_1 a1_2) = some r := by rw [if_neg (show ¬ (some q160).isNone = true by simp)] at H; exact H
        clear H
        have H := H1
        clear H1
        try simp only [errW_none, errW_some]
        have H' := Aside0.mk H
        clear H
        go_wp2
        go_meet
        case rel => exact ⟨_, (true), (by first | rfl | (simp; done) | (simp [*]; done)), H', ⟨by first | omega | exact Nat.le_refl _⟩, ⟨by (with_reducible repeat (first | apply Kd.R_alloc | apply Kd.R_drewN | apply Kd.R_drew)); exact Kd.R_mono HO154.out (fun _ hk => hk.2)⟩, ⟨by (with_reducible repeat (first | apply Kd.R_alloc | apply Kd.R_drewN | apply Kd.R_drew)); exact Kd.R_mono HO158.out (fun _ hk => hk.2)⟩, ⟨by (with_reducible repeat (first | refine blk_drewN ?_ _ | refine blk_drew ?_ | refine blk_alloc ?_ _)); exact BK149.out⟩, ⟨by (with_reducible repeat (first | refine blk_drewN ?_ _ | refine blk_drew ?_ | refine blk_alloc ?_ _)); exact BK150.out⟩, ⟨by repeat (first | (with_reducible first | exact HB.out | apply below_alloc | apply pw_below_drewN | apply below_drew1 | refine below_set ?_ GE149.out | refine below_set ?_ GE150.out) | exact HB.out)⟩⟩
    case rest =>
      clear HC7
      try clear c1
      try clear q1
      try clear p2
      try clear c4
      try clear c7
      try clear c8
      try clear c11
      try clear hcz12_0
      try clear hcz12_1
      try clear hcz12_2
      try clear hcz14_0
      try clear hcz14_1
      try clear hcz14_2
      try clear hfz12_0
      try clear hfz12_1
      try clear hfz12_2
      try clear hfz14_0
      try clear hfz14_1
      try clear hfz14_2
      try clear q160
      try clear q161
      obtain ⟨kq, x31_6, rfl, HA, HJ6, HO_6, HO_8, BK149, BK150, HB⟩ := hcut
      cases kq with
      | zero => exact absurd HA.out (by simp [pledgelaw9_RecOrders.j0])
      | succ kj6 =>
        have H := HA.out
        clear HA
        simp only [pledgelaw9_RecOrders.j0] at H
        by_cases c16 : x31_6 = true
        · subst c16
          have H1 : (some true) = some r := by rw [if_pos rfl] at H; exact H
          clear H
          have H := H1
          clear H1
          obtain rfl := Option.some.inj H
          go_wp2
          go_ret
          exact ⟨by first | rfl | (simp [errW_none, errW_some] <;> rfl) | (exfalso; simp_all; done) | (simp [*, errW_none, errW_some] <;> rfl), by repeat (first | (with_reducible first | exact HB.out | apply below_alloc | apply pw_below_drewN | apply below_drew1 | refine below_set ?_ GE149.out | refine below_set ?_ GE150.out) | exact HB.out)⟩
        · replace c16 := Bool.eq_false_iff.mpr c16
          subst c16
          have H1 : ((rec_Read.f kj6 t152).bind fun bt162 => (if a0_0 < a1_0 then (pledgelaw9_RecOrders.j1 kj6 true t152 t156 bt162.2.2.2 true a0_0 a0_1 a0_2 a1_0 a1_1 a1_2 bt162.1 bt162.2.1 bt162.2.2.1) else (if a0_0 = a1_0 then (if a0_1 < a1_1 then (pledgelaw9_RecOrders.j1 kj6 true t152 t156 bt162.2.2.2 true a0_0 a0_1 a0_2 a1_0 a1_1 a1_2 bt162.1 bt162.2.1 bt162.2.2.1) else (if a0_1 = a1_1 then (pledgelaw9_RecOrders.j1 kj6 true t152 t156 bt162.2.2.2 (decide (a0_2 < a1_2)) a0_0 a0_1 a0_2 a1_0 a1_1 a1_2 bt162.1 bt162.2.1 bt162.2.2.1) else (pledgelaw9_RecOrders.j1 kj6 true t152 t156 bt162.2.2.2 false a0_0 a0_1 a0_2 a1_0 a1_1 a1_2 bt162.1 bt162.2.1 bt162.2.2.1))) else (pledgelaw9_RecOrders.j1 kj6 true t152 t156 bt162.2.2.2 false a0_0 a0_1 a0_2 a1_0 a1_1 a1_2 bt162.1 bt162.2.1 bt162.2.2.1)))) = some r := by rw [if_neg (show ¬ (false = true) by decide)] at H; exact H
          clear H
          have H := H1
          clear H1
          replace H := Option.bind_eq_some_iff.mp H
          obtain ⟨⟨t162, t163, t164, t165⟩, A170, H⟩ := H
          replace H : (if a0_0 < a1_0 then (pledgelaw9_RecOrders.j1 kj6 true t152 t156 t165 true a0_0 a0_1 a0_2 a1_0 a1_1 a1_2 t162 t163 t164) else (if a0_0 = a1_0 then (if a0_1 < a1_1 then (pledgelaw9_RecOrders.j1 kj6 true t152 t156 t165 true a0_0 a0_1 a0_2 a1_0 a1_1 a1_2 t162 t163 t164) else (if a0_1 = a1_1 then (pledgelaw9_RecOrders.j1 kj6 true t152 t156 t165 (decide (a0_2 < a1_2)) a0_0 a0_1 a0_2 a1_0 a1_1 a1_2 t162 t163 t164) else (pledgelaw9_RecOrders.j1 kj6 true t152 t156 t165 false a0_0 a0_1 a0_2 a1_0 a1_1 a1_2 t162 t163 t164))) else (pledgelaw9_RecOrders.j1 kj6 true t152 t156 t165 false a0_0 a0_1 a0_2 a1_0 a1_1 a1_2 t162 t163 t164))) = some r := H
          have A17 := Aside0.mk A170
          clear A170
          have HC18 := Aside0.mk H
          clear H
          obtain ⟨Ao19, co19, eo19⟩ := Kd.R_slice HO_6.out
          subst eo19
          go_upto_region 9 with (first | ((with_reducible refine gate_callee (f := 10) rfl ?_); refine goesL_ (some 35) rfl rfl Tryd.func10 (by kernel_rfl) rfl #[.slice Ao19 t152.length co19] rfl (by (try simp only [List.map_toArray, List.map_cons, List.map_nil]); first | done | rfl | (simp only [List.length_drop, List.length_take]; rfl)) ?_; (with_reducible refine (rec_Read.calls kj6 _ _ t152 t162 t163 t164 t165 _ ?side1 ?side2 ?side3 A17.out).mono ?_); (case side1 => exact GlobOK.below HG.out (by repeat (first | (with_reducible first | exact HB.out | apply below_alloc | apply pw_below_drewN | apply below_drew1 | refine below_set ?_ GE149.out | refine below_set ?_ GE150.out) | exact HB.out))); (case side2 => repeat (first | exact (Kd.R_reads' HO_6.out).2.2 | (with_reducible refine Kd.C_alloc ?_ _) | (with_reducible refine Kd.C_drewN ?_ _) | (with_reducible refine Kd.C_drew ?_))); (case side3 => exact (Kd.R_reads' HO_6.out).2.1); rintro e w20 ⟨rfl, hb⟩; refine ⟨_, rfl, ?_⟩; have n0_ := Aside0.mk (Kd.R_below (by (with_reducible repeat (first | apply Kd.R_alloc | apply Kd.R_drewN | apply Kd.R_drew)); exact HO_6.out) hb); have n1_ := Aside0.mk (Kd.R_below (by (with_reducible repeat (first | apply Kd.R_alloc | apply Kd.R_drewN | apply Kd.R_drew)); exact HO_8.out) hb); have n2_ := Aside0.mk (blk_below (g := gb149) (o := .cells #[.int .i64 a0_0, .int .i64 a0_1, .int .i64 a0_2] 29 (0, 0)) (by (with_reducible repeat (first | refine blk_drewN ?_ _ | refine blk_drew ?_ | refine blk_alloc ?_ _)); exact BK149.out) hb); have n3_ := Aside0.mk (blk_below (g := gb150) (o := .cells #[.int .i64 a1_0, .int .i64 a1_1, .int .i64 a1_2] 29 (0, 0)) (by (with_reducible repeat (first | refine blk_drewN ?_ _ | refine blk_drew ?_ | refine blk_alloc ?_ _)); exact BK150.out) hb); have n4_ := Aside0.mk (below_step (by repeat (first | (with_reducible first | exact HB.out | apply below_alloc | apply pw_below_drewN | apply below_drew1 | refine below_set ?_ GE149.out | refine below_set ?_ GE150.out) | exact HB.out)) hb); clear HO_6; clear HO_8; clear BK149; clear BK150; clear HB; have HO_6 := n0_; have HO_8 := n1_; have BK149 := n2_; have BK150 := n3_; have HB := n4_; clear n0_ n1_ n2_ n3_ n4_; (try clear hb); (try clear hb2); (try clear hk); (try clear hi); (try simp only [errW_none, errW_some])) | ((with_reducible refine gate_dst (N := 10) rfl ?_); refine box_event ?hg (N := 10) ?hd (cs := #[.int .i64 0, .int .i64 0, .int .i64 0]) (t := 29) ?hr ?_; (case hd => rfl); (case hg => rfl); (case hr => first | (go_simp; done) | (go_simp; rfl)); intro gb166 hg w21 hbox hb; have n0_ := Aside0.mk (Kd.R_below (by (with_reducible repeat (first | apply Kd.R_alloc | apply Kd.R_drewN | apply Kd.R_drew)); exact HO_6.out) hb); have n1_ := Aside0.mk (Kd.R_below (by (with_reducible repeat (first | apply Kd.R_alloc | apply Kd.R_drewN | apply Kd.R_drew)); exact HO_8.out) hb); have n2_ := Aside0.mk (blk_below (g := gb149) (o := .cells #[.int .i64 a0_0, .int .i64 a0_1, .int .i64 a0_2] 29 (0, 0)) (by (with_reducible repeat (first | refine blk_drewN ?_ _ | refine blk_drew ?_ | refine blk_alloc ?_ _)); exact BK149.out) hb); have n3_ := Aside0.mk (blk_below (g := gb150) (o := .cells #[.int .i64 a1_0, .int .i64 a1_1, .int .i64 a1_2] 29 (0, 0)) (by (with_reducible repeat (first | refine blk_drewN ?_ _ | refine blk_drew ?_ | refine blk_alloc ?_ _)); exact BK150.out) hb); have n4_ := Aside0.mk (below_step (by repeat (first | (with_reducible first | exact HB.out | apply below_alloc | apply pw_below_drewN | apply below_drew1 | refine below_set ?_ GE149.out | refine below_set ?_ GE150.out) | exact HB.out)) hb); have n5_ := Aside0.mk (hbox); have n6_ := Aside0.mk ((by rw [hg]; exact (below_size (by repeat (first | (with_reducible first | exact HB.out | apply below_alloc | apply pw_below_drewN | apply below_drew1 | refine below_set ?_ GE149.out | refine below_set ?_ GE150.out) | exact HB.out))) : w.heap.size ≤ gb166)); have n7_ := Aside0.mk ((by rw [hg]; exact (below_size (by repeat (first | (with_reducible first | exact HB.out | apply below_alloc | apply pw_below_drewN | apply below_drew1 | refine below_set ?_ GE149.out | refine below_set ?_ GE150.out) | exact HB.out))) : w.heap.size ≤ gb166)); have n8_ := Aside0.mk ((by rw [hg]; exact Nat.ne_of_lt (blk_lt (g := gb149) (o := .cells #[.int .i64 a0_0, .int .i64 a0_1, .int .i64 a0_2] 29 (0, 0)) (by (with_reducible repeat (first | refine blk_drewN ?_ _ | refine blk_drew ?_ | refine blk_alloc ?_ _)); exact BK149.out)) : gb149 ≠ gb166)); have n9_ := Aside0.mk ((by rw [hg]; exact Nat.ne_of_gt (blk_lt (g := gb149) (o := .cells #[.int .i64 a0_0, .int .i64 a0_1, .int .i64 a0_2] 29 (0, 0)) (by (with_reducible repeat (first | refine blk_drewN ?_ _ | refine blk_drew ?_ | refine blk_alloc ?_ _)); exact BK149.out)) : gb166 ≠ gb149)); have n10_ := Aside0.mk ((by rw [hg]; exact Nat.ne_of_lt (blk_lt (g := gb150) (o := .cells #[.int .i64 a1_0, .int .i64 a1_1, .int .i64 a1_2] 29 (0, 0)) (by (with_reducible repeat (first | refine blk_drewN ?_ _ | refine blk_drew ?_ | refine blk_alloc ?_ _)); exact BK150.out)) : gb150 ≠ gb166)); have n11_ := Aside0.mk ((by rw [hg]; exact Nat.ne_of_gt (blk_lt (g := gb150) (o := .cells #[.int .i64 a1_0, .int .i64 a1_1, .int .i64 a1_2] 29 (0, 0)) (by (with_reducible repeat (first | refine blk_drewN ?_ _ | refine blk_drew ?_ | refine blk_alloc ?_ _)); exact BK150.out)) : gb166 ≠ gb150)); clear HO_6; clear HO_8; clear BK149; clear BK150; clear HB; have HO_6 := n0_; have HO_8 := n1_; have BK149 := n2_; have BK150 := n3_; have HB := n4_; have BK166 := n5_; have GW166 := n6_; have GE166 := n7_; have NB149_166 := n8_; have NB166_149 := n9_; have NB150_166 := n10_; have NB166_150 := n11_; clear n0_ n1_ n2_ n3_ n4_ n5_ n6_ n7_ n8_ n9_ n10_ n11_; clear hb hbox hg; have hnb22 := NB166_149.out; have hnc22 := NB149_166.out; have hnb23 := NB166_150.out; have hnc23 := NB150_166.out; have hcz24_0 : w21.cell? ⟨gb166, 0, none⟩ = some (.int .i64 0) := (blk_cell BK166.out 0).trans rfl; have hcz24_1 : w21.cell? ⟨gb166, 1, none⟩ = some (.int .i64 0) := (blk_cell BK166.out 1).trans rfl; have hcz24_2 : w21.cell? ⟨gb166, 2, none⟩ = some (.int .i64 0) := (blk_cell BK166.out 2).trans rfl; have hfz24_0 := blk_frozen BK166.out 0; have hfz24_1 := blk_frozen BK166.out 1; have hfz24_2 := blk_frozen BK166.out 2))
          (try simp only [Act.put, List.setIfInBounds_toArray, List.set_cons_zero, List.set_cons_succ])
          go_cut [12] (fun v12 wc => ∃ (kq : Nat) (x12_17 : Bool), v12 = .bool x12_17 ∧ Aside0 (pledgelaw9_RecOrders.j1 kq true t152 t156 t165 x12_17 a0_0 a0_1 a0_2 a1_0 a1_1 a1_2 t162 t163 t164 = some r) ∧ Aside0 (kq ≤ kj6) ∧ Aside0 (Kd.R (Kd.int .u8) 5 wc w.heap.size (fun k_ => some k_ ≠ (v157 : Value).ownBlock) (.slice Ao19 t152.length co19) t152) ∧ Aside0 (Kd.R (Kd.int .u8) 5 wc w.heap.size (fun k_ => some k_ ≠ ((.slice Ao19 t152.length co19) : Value).ownBlock) v157 t156) ∧ Aside0 (wc.heap[gb149]? = some (.cells #[.int .i64 a0_0, .int .i64 a0_1, .int .i64 a0_2] 29 (0, 0))) ∧ Aside0 (wc.heap[gb150]? = some (.cells #[.int .i64 a1_0, .int .i64 a1_1, .int .i64 a1_2] 29 (0, 0))) ∧ Aside0 (wc.heap[gb166]? = some (.cells #[.int .i64 t162, .int .i64 t163, .int .i64 t164] 29 (0, 0))) ∧ Aside0 (Below w.heap.size w wc))
          case first =>
            have H := HC18.out
            clear HC18
            by_cases c25 : a0_0 < a1_0
            · rw [if_pos c25] at H
              have c25b0 : decide (a0_0 < a1_0) = true := decide_eq_true c25
              clear c25
              (first | rw [c25b0] | (simp only [i64_w, i32_w]; rw [c25b0]) | skip)
              have H' := Aside0.mk H
              clear H
              have hnb26 := NB149_150.out
              have hnc26 := NB150_149.out
              have hnb27 := NB149_166.out
              have hnc27 := NB166_149.out
              have hcz28_0 : w21.cell? ⟨gb149, 0, none⟩ = some (.int .i64 a0_0) := (blk_cell BK149.out 0).trans rfl
              have hcz28_1 : w21.cell? ⟨gb149, 1, none⟩ = some (.int .i64 a0_1) := (blk_cell BK149.out 1).trans rfl
              have hcz28_2 : w21.cell? ⟨gb149, 2, none⟩ = some (.int .i64 a0_2) := (blk_cell BK149.out 2).trans rfl
              have hfz28_0 := blk_frozen BK149.out 0
              have hfz28_1 := blk_frozen BK149.out 1
              have hfz28_2 := blk_frozen BK149.out 2
              have hnb29 := NB150_166.out
              have hnc29 := NB166_150.out
              have hcz30_0 : w21.cell? ⟨gb150, 0, none⟩ = some (.int .i64 a1_0) := (blk_cell BK150.out 0).trans rfl
              have hcz30_1 : w21.cell? ⟨gb150, 1, none⟩ = some (.int .i64 a1_1) := (blk_cell BK150.out 1).trans rfl
              have hcz30_2 : w21.cell? ⟨gb150, 2, none⟩ = some (.int .i64 a1_2) := (blk_cell BK150.out 2).trans rfl
              have hfz30_0 := blk_frozen BK150.out 0
              have hfz30_1 := blk_frozen BK150.out 1
              have hfz30_2 := blk_frozen BK150.out 2
              go_wp2
              go_meet
              case rel => exact ⟨_, (true), (by first | rfl | (simp; done) | (simp [*]; done)), H', ⟨by have := HJ6.out; first | omega | exact Nat.le_refl _⟩, ⟨by (with_reducible repeat (first | apply Kd.R_alloc | apply Kd.R_drewN | apply Kd.R_drew)); exact Kd.R_mono (Kd.R_far (p := ⟨gb166, 2, none⟩) (Kd.R_far (p := ⟨gb166, 1, none⟩) (Kd.R_far (p := ⟨gb166, 0, none⟩) (Kd.R_types HO_6.out BK166.out (by decide)) (fun _ hk => hk.2) (.int .i64 t162)) (fun _ hk => hk.2) (.int .i64 t163)) (fun _ hk => hk.2) (.int .i64 t164)) (fun _ hk => hk.1)⟩, ⟨by (with_reducible repeat (first | apply Kd.R_alloc | apply Kd.R_drewN | apply Kd.R_drew)); exact Kd.R_mono (Kd.R_far (p := ⟨gb166, 2, none⟩) (Kd.R_far (p := ⟨gb166, 1, none⟩) (Kd.R_far (p := ⟨gb166, 0, none⟩) (Kd.R_types HO_8.out BK166.out (by decide)) (fun _ hk => hk.2) (.int .i64 t162)) (fun _ hk => hk.2) (.int .i64 t163)) (fun _ hk => hk.2) (.int .i64 t164)) (fun _ hk => hk.1)⟩, ⟨by (with_reducible repeat (first | refine blk_drewN ?_ _ | refine blk_drew ?_ | refine blk_alloc ?_ _)); refine blk_far ?_ NB149_166.out _; (with_reducible repeat (first | refine blk_drewN ?_ _ | refine blk_drew ?_ | refine blk_alloc ?_ _)); refine blk_far ?_ NB149_166.out _; (with_reducible repeat (first | refine blk_drewN ?_ _ | refine blk_drew ?_ | refine blk_alloc ?_ _)); refine blk_far ?_ NB149_166.out _; (with_reducible repeat (first | refine blk_drewN ?_ _ | refine blk_drew ?_ | refine blk_alloc ?_ _)); exact BK149.out⟩, ⟨by (with_reducible repeat (first | refine blk_drewN ?_ _ | refine blk_drew ?_ | refine blk_alloc ?_ _)); refine blk_far ?_ NB150_166.out _; (with_reducible repeat (first | refine blk_drewN ?_ _ | refine blk_drew ?_ | refine blk_alloc ?_ _)); refine blk_far ?_ NB150_166.out _; (with_reducible repeat (first | refine blk_drewN ?_ _ | refine blk_drew ?_ | refine blk_alloc ?_ _)); refine blk_far ?_ NB150_166.out _; (with_reducible repeat (first | refine blk_drewN ?_ _ | refine blk_drew ?_ | refine blk_alloc ?_ _)); exact BK150.out⟩, ⟨by (with_reducible repeat (first | refine blk_drewN ?_ _ | refine blk_drew ?_ | refine blk_alloc ?_ _)); refine blk_put (cs := #[.int .i64 t162, .int .i64 t163, .int .i64 0]) ?_ 2 _ rfl; (with_reducible repeat (first | refine blk_drewN ?_ _ | refine blk_drew ?_ | refine blk_alloc ?_ _)); refine blk_put (cs := #[.int .i64 t162, .int .i64 0, .int .i64 0]) ?_ 1 _ rfl; (with_reducible repeat (first | refine blk_drewN ?_ _ | refine blk_drew ?_ | refine blk_alloc ?_ _)); refine blk_put (cs := #[.int .i64 0, .int .i64 0, .int .i64 0]) ?_ 0 _ rfl; (with_reducible repeat (first | refine blk_drewN ?_ _ | refine blk_drew ?_ | refine blk_alloc ?_ _)); exact BK166.out⟩, ⟨by repeat (first | (with_reducible first | exact HB.out | apply below_alloc | apply pw_below_drewN | apply below_drew1 | refine below_set ?_ GE149.out | refine below_set ?_ GE150.out | refine below_set ?_ GE166.out) | exact HB.out)⟩⟩
            · rw [if_neg c25] at H
              have c25b0 : decide (a0_0 < a1_0) = false := decide_eq_false c25
              clear c25
              (first | rw [c25b0] | (simp only [i64_w, i32_w]; rw [c25b0]) | skip)
              by_cases c31 : a0_0 = a1_0
              · rw [if_pos c31] at H
                have c31b0 : (a0_0 == a1_0) = true := beq_iff_eq.mpr c31
                have c31b1 : (a0_0 != a1_0) = false := bne_eq_false_iff_eq.mpr c31
                clear c31
                by_cases c32 : a0_1 < a1_1
                · rw [if_pos c32] at H
                  have c32b0 : decide (a0_1 < a1_1) = true := decide_eq_true c32
                  clear c32
                  have H' := Aside0.mk H
                  clear H
                  have hnb33 := NB149_150.out
                  have hnc33 := NB150_149.out
                  have hnb34 := NB149_166.out
                  have hnc34 := NB166_149.out
                  have hcz35_0 : w21.cell? ⟨gb149, 0, none⟩ = some (.int .i64 a0_0) := (blk_cell BK149.out 0).trans rfl
                  have hcz35_1 : w21.cell? ⟨gb149, 1, none⟩ = some (.int .i64 a0_1) := (blk_cell BK149.out 1).trans rfl
                  have hcz35_2 : w21.cell? ⟨gb149, 2, none⟩ = some (.int .i64 a0_2) := (blk_cell BK149.out 2).trans rfl
                  have hfz35_0 := blk_frozen BK149.out 0
                  have hfz35_1 := blk_frozen BK149.out 1
                  have hfz35_2 := blk_frozen BK149.out 2
                  have hnb36 := NB150_166.out
                  have hnc36 := NB166_150.out
                  have hcz37_0 : w21.cell? ⟨gb150, 0, none⟩ = some (.int .i64 a1_0) := (blk_cell BK150.out 0).trans rfl
                  have hcz37_1 : w21.cell? ⟨gb150, 1, none⟩ = some (.int .i64 a1_1) := (blk_cell BK150.out 1).trans rfl
                  have hcz37_2 : w21.cell? ⟨gb150, 2, none⟩ = some (.int .i64 a1_2) := (blk_cell BK150.out 2).trans rfl
                  have hfz37_0 := blk_frozen BK150.out 0
                  have hfz37_1 := blk_frozen BK150.out 1
                  have hfz37_2 := blk_frozen BK150.out 2
                  go_wp2
                  go_meet
                  case rel => exact ⟨_, (true), (by first | rfl | (simp; done) | (simp [*]; done)), H', ⟨by have := HJ6.out; first | omega | exact Nat.le_refl _⟩, ⟨by (with_reducible repeat (first | apply Kd.R_alloc | apply Kd.R_drewN | apply Kd.R_drew)); exact Kd.R_mono (Kd.R_far (p := ⟨gb166, 2, none⟩) (Kd.R_far (p := ⟨gb166, 1, none⟩) (Kd.R_far (p := ⟨gb166, 0, none⟩) (Kd.R_types HO_6.out BK166.out (by decide)) (fun _ hk => hk.2) (.int .i64 t162)) (fun _ hk => hk.2) (.int .i64 t163)) (fun _ hk => hk.2) (.int .i64 t164)) (fun _ hk => hk.1)⟩, ⟨by (with_reducible repeat (first | apply Kd.R_alloc | apply Kd.R_drewN | apply Kd.R_drew)); exact Kd.R_mono (Kd.R_far (p := ⟨gb166, 2, none⟩) (Kd.R_far (p := ⟨gb166, 1, none⟩) (Kd.R_far (p := ⟨gb166, 0, none⟩) (Kd.R_types HO_8.out BK166.out (by decide)) (fun _ hk => hk.2) (.int .i64 t162)) (fun _ hk => hk.2) (.int .i64 t163)) (fun _ hk => hk.2) (.int .i64 t164)) (fun _ hk => hk.1)⟩, ⟨by (with_reducible repeat (first | refine blk_drewN ?_ _ | refine blk_drew ?_ | refine blk_alloc ?_ _)); refine blk_far ?_ NB149_166.out _; (with_reducible repeat (first | refine blk_drewN ?_ _ | refine blk_drew ?_ | refine blk_alloc ?_ _)); refine blk_far ?_ NB149_166.out _; (with_reducible repeat (first | refine blk_drewN ?_ _ | refine blk_drew ?_ | refine blk_alloc ?_ _)); refine blk_far ?_ NB149_166.out _; (with_reducible repeat (first | refine blk_drewN ?_ _ | refine blk_drew ?_ | refine blk_alloc ?_ _)); exact BK149.out⟩, ⟨by (with_reducible repeat (first | refine blk_drewN ?_ _ | refine blk_drew ?_ | refine blk_alloc ?_ _)); refine blk_far ?_ NB150_166.out _; (with_reducible repeat (first | refine blk_drewN ?_ _ | refine blk_drew ?_ | refine blk_alloc ?_ _)); refine blk_far ?_ NB150_166.out _; (with_reducible repeat (first | refine blk_drewN ?_ _ | refine blk_drew ?_ | refine blk_alloc ?_ _)); refine blk_far ?_ NB150_166.out _; (with_reducible repeat (first | refine blk_drewN ?_ _ | refine blk_drew ?_ | refine blk_alloc ?_ _)); exact BK150.out⟩, ⟨by (with_reducible repeat (first | refine blk_drewN ?_ _ | refine blk_drew ?_ | refine blk_alloc ?_ _)); refine blk_put (cs := #[.int .i64 t162, .int .i64 t163, .int .i64 0]) ?_ 2 _ rfl; (with_reducible repeat (first | refine blk_drewN ?_ _ | refine blk_drew ?_ | refine blk_alloc ?_ _)); refine blk_put (cs := #[.int .i64 t162, .int .i64 0, .int .i64 0]) ?_ 1 _ rfl; (with_reducible repeat (first | refine blk_drewN ?_ _ | refine blk_drew ?_ | refine blk_alloc ?_ _)); refine blk_put (cs := #[.int .i64 0, .int .i64 0, .int .i64 0]) ?_ 0 _ rfl; (with_reducible repeat (first | refine blk_drewN ?_ _ | refine blk_drew ?_ | refine blk_alloc ?_ _)); exact BK166.out⟩, ⟨by repeat (first | (with_reducible first | exact HB.out | apply below_alloc | apply pw_below_drewN | apply below_drew1 | refine below_set ?_ GE149.out | refine below_set ?_ GE150.out | refine below_set ?_ GE166.out) | exact HB.out)⟩⟩
                · rw [if_neg c32] at H
                  have c32b0 : decide (a0_1 < a1_1) = false := decide_eq_false c32
                  clear c32
                  by_cases c38 : a0_1 = a1_1
                  · rw [if_pos c38] at H
                    have c38b0 : (a0_1 == a1_1) = true := beq_iff_eq.mpr c38
                    have c38b1 : (a0_1 != a1_1) = false := bne_eq_false_iff_eq.mpr c38
                    clear c38
                    have H' := Aside0.mk H
                    clear H
                    have hnb39 := NB149_150.out
                    have hnc39 := NB150_149.out
                    have hnb40 := NB149_166.out
                    have hnc40 := NB166_149.out
                    have hcz41_0 : w21.cell? ⟨gb149, 0, none⟩ = some (.int .i64 a0_0) := (blk_cell BK149.out 0).trans rfl
                    have hcz41_1 : w21.cell? ⟨gb149, 1, none⟩ = some (.int .i64 a0_1) := (blk_cell BK149.out 1).trans rfl
                    have hcz41_2 : w21.cell? ⟨gb149, 2, none⟩ = some (.int .i64 a0_2) := (blk_cell BK149.out 2).trans rfl
                    have hfz41_0 := blk_frozen BK149.out 0
                    have hfz41_1 := blk_frozen BK149.out 1
                    have hfz41_2 := blk_frozen BK149.out 2
                    have hnb42 := NB150_166.out
                    have hnc42 := NB166_150.out
                    have hcz43_0 : w21.cell? ⟨gb150, 0, none⟩ = some (.int .i64 a1_0) := (blk_cell BK150.out 0).trans rfl
                    have hcz43_1 : w21.cell? ⟨gb150, 1, none⟩ = some (.int .i64 a1_1) := (blk_cell BK150.out 1).trans rfl
                    have hcz43_2 : w21.cell? ⟨gb150, 2, none⟩ = some (.int .i64 a1_2) := (blk_cell BK150.out 2).trans rfl
                    have hfz43_0 := blk_frozen BK150.out 0
                    have hfz43_1 := blk_frozen BK150.out 1
                    have hfz43_2 := blk_frozen BK150.out 2
                    go_wp2
                    go_meet
                    case rel => exact ⟨_, (decide (a0_2 < a1_2)), (by first | rfl | (simp; done) | (simp [*]; done)), H', ⟨by have := HJ6.out; first | omega | exact Nat.le_refl _⟩, ⟨by (with_reducible repeat (first | apply Kd.R_alloc | apply Kd.R_drewN | apply Kd.R_drew)); exact Kd.R_mono (Kd.R_far (p := ⟨gb166, 2, none⟩) (Kd.R_far (p := ⟨gb166, 1, none⟩) (Kd.R_far (p := ⟨gb166, 0, none⟩) (Kd.R_types HO_6.out BK166.out (by decide)) (fun _ hk => hk.2) (.int .i64 t162)) (fun _ hk => hk.2) (.int .i64 t163)) (fun _ hk => hk.2) (.int .i64 t164)) (fun _ hk => hk.1)⟩, ⟨by (with_reducible repeat (first | apply Kd.R_alloc | apply Kd.R_drewN | apply Kd.R_drew)); exact Kd.R_mono (Kd.R_far (p := ⟨gb166, 2, none⟩) (Kd.R_far (p := ⟨gb166, 1, none⟩) (Kd.R_far (p := ⟨gb166, 0, none⟩) (Kd.R_types HO_8.out BK166.out (by decide)) (fun _ hk => hk.2) (.int .i64 t162)) (fun _ hk => hk.2) (.int .i64 t163)) (fun _ hk => hk.2) (.int .i64 t164)) (fun _ hk => hk.1)⟩, ⟨by (with_reducible repeat (first | refine blk_drewN ?_ _ | refine blk_drew ?_ | refine blk_alloc ?_ _)); refine blk_far ?_ NB149_166.out _; (with_reducible repeat (first | refine blk_drewN ?_ _ | refine blk_drew ?_ | refine blk_alloc ?_ _)); refine blk_far ?_ NB149_166.out _; (with_reducible repeat (first | refine blk_drewN ?_ _ | refine blk_drew ?_ | refine blk_alloc ?_ _)); refine blk_far ?_ NB149_166.out _; (with_reducible repeat (first | refine blk_drewN ?_ _ | refine blk_drew ?_ | refine blk_alloc ?_ _)); exact BK149.out⟩, ⟨by (with_reducible repeat (first | refine blk_drewN ?_ _ | refine blk_drew ?_ | refine blk_alloc ?_ _)); refine blk_far ?_ NB150_166.out _; (with_reducible repeat (first | refine blk_drewN ?_ _ | refine blk_drew ?_ | refine blk_alloc ?_ _)); refine blk_far ?_ NB150_166.out _; (with_reducible repeat (first | refine blk_drewN ?_ _ | refine blk_drew ?_ | refine blk_alloc ?_ _)); refine blk_far ?_ NB150_166.out _; (with_reducible repeat (first | refine blk_drewN ?_ _ | refine blk_drew ?_ | refine blk_alloc ?_ _)); exact BK150.out⟩, ⟨by (with_reducible repeat (first | refine blk_drewN ?_ _ | refine blk_drew ?_ | refine blk_alloc ?_ _)); refine blk_put (cs := #[.int .i64 t162, .int .i64 t163, .int .i64 0]) ?_ 2 _ rfl; (with_reducible repeat (first | refine blk_drewN ?_ _ | refine blk_drew ?_ | refine blk_alloc ?_ _)); refine blk_put (cs := #[.int .i64 t162, .int .i64 0, .int .i64 0]) ?_ 1 _ rfl; (with_reducible repeat (first | refine blk_drewN ?_ _ | refine blk_drew ?_ | refine blk_alloc ?_ _)); refine blk_put (cs := #[.int .i64 0, .int .i64 0, .int .i64 0]) ?_ 0 _ rfl; (with_reducible repeat (first | refine blk_drewN ?_ _ | refine blk_drew ?_ | refine blk_alloc ?_ _)); exact BK166.out⟩, ⟨by repeat (first | (with_reducible first | exact HB.out | apply below_alloc | apply pw_below_drewN | apply below_drew1 | refine below_set ?_ GE149.out | refine below_set ?_ GE150.out | refine below_set ?_ GE166.out) | exact HB.out)⟩⟩
                  · rw [if_neg c38] at H
                    have c38b0 : (a0_1 == a1_1) = false := beq_eq_false_iff_ne.mpr c38
                    have c38b1 : (a0_1 != a1_1) = true := bne_iff_ne.mpr c38
                    have H' := Aside0.mk H
                    clear H
                    have hnb44 := NB149_150.out
                    have hnc44 := NB150_149.out
                    have hnb45 := NB149_166.out
                    have hnc45 := NB166_149.out
                    have hcz46_0 : w21.cell? ⟨gb149, 0, none⟩ = some (.int .i64 a0_0) := (blk_cell BK149.out 0).trans rfl
                    have hcz46_1 : w21.cell? ⟨gb149, 1, none⟩ = some (.int .i64 a0_1) := (blk_cell BK149.out 1).trans rfl
                    have hcz46_2 : w21.cell? ⟨gb149, 2, none⟩ = some (.int .i64 a0_2) := (blk_cell BK149.out 2).trans rfl
                    have hfz46_0 := blk_frozen BK149.out 0
                    have hfz46_1 := blk_frozen BK149.out 1
                    have hfz46_2 := blk_frozen BK149.out 2
                    have hnb47 := NB150_166.out
                    have hnc47 := NB166_150.out
                    have hcz48_0 : w21.cell? ⟨gb150, 0, none⟩ = some (.int .i64 a1_0) := (blk_cell BK150.out 0).trans rfl
                    have hcz48_1 : w21.cell? ⟨gb150, 1, none⟩ = some (.int .i64 a1_1) := (blk_cell BK150.out 1).trans rfl
                    have hcz48_2 : w21.cell? ⟨gb150, 2, none⟩ = some (.int .i64 a1_2) := (blk_cell BK150.out 2).trans rfl
                    have hfz48_0 := blk_frozen BK150.out 0
                    have hfz48_1 := blk_frozen BK150.out 1
                    have hfz48_2 := blk_frozen BK150.out 2
                    go_wp2
                    go_meet
                    case rel => exact ⟨_, (false), (by first | rfl | (simp; done) | (simp [*]; done)), H', ⟨by have := HJ6.out; first | omega | exact Nat.le_refl _⟩, ⟨by (with_reducible repeat (first | apply Kd.R_alloc | apply Kd.R_drewN | apply Kd.R_drew)); exact Kd.R_mono (Kd.R_far (p := ⟨gb166, 2, none⟩) (Kd.R_far (p := ⟨gb166, 1, none⟩) (Kd.R_far (p := ⟨gb166, 0, none⟩) (Kd.R_types HO_6.out BK166.out (by decide)) (fun _ hk => hk.2) (.int .i64 t162)) (fun _ hk => hk.2) (.int .i64 t163)) (fun _ hk => hk.2) (.int .i64 t164)) (fun _ hk => hk.1)⟩, ⟨by (with_reducible repeat (first | apply Kd.R_alloc | apply Kd.R_drewN | apply Kd.R_drew)); exact Kd.R_mono (Kd.R_far (p := ⟨gb166, 2, none⟩) (Kd.R_far (p := ⟨gb166, 1, none⟩) (Kd.R_far (p := ⟨gb166, 0, none⟩) (Kd.R_types HO_8.out BK166.out (by decide)) (fun _ hk => hk.2) (.int .i64 t162)) (fun _ hk => hk.2) (.int .i64 t163)) (fun _ hk => hk.2) (.int .i64 t164)) (fun _ hk => hk.1)⟩, ⟨by (with_reducible repeat (first | refine blk_drewN ?_ _ | refine blk_drew ?_ | refine blk_alloc ?_ _)); refine blk_far ?_ NB149_166.out _; (with_reducible repeat (first | refine blk_drewN ?_ _ | refine blk_drew ?_ | refine blk_alloc ?_ _)); refine blk_far ?_ NB149_166.out _; (with_reducible repeat (first | refine blk_drewN ?_ _ | refine blk_drew ?_ | refine blk_alloc ?_ _)); refine blk_far ?_ NB149_166.out _; (with_reducible repeat (first | refine blk_drewN ?_ _ | refine blk_drew ?_ | refine blk_alloc ?_ _)); exact BK149.out⟩, ⟨by (with_reducible repeat (first | refine blk_drewN ?_ _ | refine blk_drew ?_ | refine blk_alloc ?_ _)); refine blk_far ?_ NB150_166.out _; (with_reducible repeat (first | refine blk_drewN ?_ _ | refine blk_drew ?_ | refine blk_alloc ?_ _)); refine blk_far ?_ NB150_166.out _; (with_reducible repeat (first | refine blk_drewN ?_ _ | refine blk_drew ?_ | refine blk_alloc ?_ _)); refine blk_far ?_ NB150_166.out _; (with_reducible repeat (first | refine blk_drewN ?_ _ | refine blk_drew ?_ | refine blk_alloc ?_ _)); exact BK150.out⟩, ⟨by (with_reducible repeat (first | refine blk_drewN ?_ _ | refine blk_drew ?_ | refine blk_alloc ?_ _)); refine blk_put (cs := #[.int .i64 t162, .int .i64 t163, .int .i64 0]) ?_ 2 _ rfl; (with_reducible repeat (first | refine blk_drewN ?_ _ | refine blk_drew ?_ | refine blk_alloc ?_ _)); refine blk_put (cs := #[.int .i64 t162, .int .i64 0, .int .i64 0]) ?_ 1 _ rfl; (with_reducible repeat (first | refine blk_drewN ?_ _ | refine blk_drew ?_ | refine blk_alloc ?_ _)); refine blk_put (cs := #[.int .i64 0, .int .i64 0, .int .i64 0]) ?_ 0 _ rfl; (with_reducible repeat (first | refine blk_drewN ?_ _ | refine blk_drew ?_ | refine blk_alloc ?_ _)); exact BK166.out⟩, ⟨by repeat (first | (with_reducible first | exact HB.out | apply below_alloc | apply pw_below_drewN | apply below_drew1 | refine below_set ?_ GE149.out | refine below_set ?_ GE150.out | refine below_set ?_ GE166.out) | exact HB.out)⟩⟩
              · rw [if_neg c31] at H
                have c31b0 : (a0_0 == a1_0) = false := beq_eq_false_iff_ne.mpr c31
                have c31b1 : (a0_0 != a1_0) = true := bne_iff_ne.mpr c31
                have H' := Aside0.mk H
                clear H
                have hnb49 := NB149_150.out
                have hnc49 := NB150_149.out
                have hnb50 := NB149_166.out
                have hnc50 := NB166_149.out
                have hcz51_0 : w21.cell? ⟨gb149, 0, none⟩ = some (.int .i64 a0_0) := (blk_cell BK149.out 0).trans rfl
                have hcz51_1 : w21.cell? ⟨gb149, 1, none⟩ = some (.int .i64 a0_1) := (blk_cell BK149.out 1).trans rfl
                have hcz51_2 : w21.cell? ⟨gb149, 2, none⟩ = some (.int .i64 a0_2) := (blk_cell BK149.out 2).trans rfl
                have hfz51_0 := blk_frozen BK149.out 0
                have hfz51_1 := blk_frozen BK149.out 1
                have hfz51_2 := blk_frozen BK149.out 2
                have hnb52 := NB150_166.out
                have hnc52 := NB166_150.out
                have hcz53_0 : w21.cell? ⟨gb150, 0, none⟩ = some (.int .i64 a1_0) := (blk_cell BK150.out 0).trans rfl
                have hcz53_1 : w21.cell? ⟨gb150, 1, none⟩ = some (.int .i64 a1_1) := (blk_cell BK150.out 1).trans rfl
                have hcz53_2 : w21.cell? ⟨gb150, 2, none⟩ = some (.int .i64 a1_2) := (blk_cell BK150.out 2).trans rfl
                have hfz53_0 := blk_frozen BK150.out 0
                have hfz53_1 := blk_frozen BK150.out 1
                have hfz53_2 := blk_frozen BK150.out 2
                go_wp2
                go_meet
                case rel => exact ⟨_, (false), (by first | rfl | (simp; done) | (simp [*]; done)), H', ⟨by have := HJ6.out; first | omega | exact Nat.le_refl _⟩, ⟨by (with_reducible repeat (first | apply Kd.R_alloc | apply Kd.R_drewN | apply Kd.R_drew)); exact Kd.R_mono (Kd.R_far (p := ⟨gb166, 2, none⟩) (Kd.R_far (p := ⟨gb166, 1, none⟩) (Kd.R_far (p := ⟨gb166, 0, none⟩) (Kd.R_types HO_6.out BK166.out (by decide)) (fun _ hk => hk.2) (.int .i64 t162)) (fun _ hk => hk.2) (.int .i64 t163)) (fun _ hk => hk.2) (.int .i64 t164)) (fun _ hk => hk.1)⟩, ⟨by (with_reducible repeat (first | apply Kd.R_alloc | apply Kd.R_drewN | apply Kd.R_drew)); exact Kd.R_mono (Kd.R_far (p := ⟨gb166, 2, none⟩) (Kd.R_far (p := ⟨gb166, 1, none⟩) (Kd.R_far (p := ⟨gb166, 0, none⟩) (Kd.R_types HO_8.out BK166.out (by decide)) (fun _ hk => hk.2) (.int .i64 t162)) (fun _ hk => hk.2) (.int .i64 t163)) (fun _ hk => hk.2) (.int .i64 t164)) (fun _ hk => hk.1)⟩, ⟨by (with_reducible repeat (first | refine blk_drewN ?_ _ | refine blk_drew ?_ | refine blk_alloc ?_ _)); refine blk_far ?_ NB149_166.out _; (with_reducible repeat (first | refine blk_drewN ?_ _ | refine blk_drew ?_ | refine blk_alloc ?_ _)); refine blk_far ?_ NB149_166.out _; (with_reducible repeat (first | refine blk_drewN ?_ _ | refine blk_drew ?_ | refine blk_alloc ?_ _)); refine blk_far ?_ NB149_166.out _; (with_reducible repeat (first | refine blk_drewN ?_ _ | refine blk_drew ?_ | refine blk_alloc ?_ _)); exact BK149.out⟩, ⟨by (with_reducible repeat (first | refine blk_drewN ?_ _ | refine blk_drew ?_ | refine blk_alloc ?_ _)); refine blk_far ?_ NB150_166.out _; (with_reducible repeat (first | refine blk_drewN ?_ _ | refine blk_drew ?_ | refine blk_alloc ?_ _)); refine blk_far ?_ NB150_166.out _; (with_reducible repeat (first | refine blk_drewN ?_ _ | refine blk_drew ?_ | refine blk_alloc ?_ _)); refine blk_far ?_ NB150_166.out _; (with_reducible repeat (first | refine blk_drewN ?_ _ | refine blk_drew ?_ | refine blk_alloc ?_ _)); exact BK150.out⟩, ⟨by (with_reducible repeat (first | refine blk_drewN ?_ _ | refine blk_drew ?_ | refine blk_alloc ?_ _)); refine blk_put (cs := #[.int .i64 t162, .int .i64 t163, .int .i64 0]) ?_ 2 _ rfl; (with_reducible repeat (first | refine blk_drewN ?_ _ | refine blk_drew ?_ | refine blk_alloc ?_ _)); refine blk_put (cs := #[.int .i64 t162, .int .i64 0, .int .i64 0]) ?_ 1 _ rfl; (with_reducible repeat (first | refine blk_drewN ?_ _ | refine blk_drew ?_ | refine blk_alloc ?_ _)); refine blk_put (cs := #[.int .i64 0, .int .i64 0, .int .i64 0]) ?_ 0 _ rfl; (with_reducible repeat (first | refine blk_drewN ?_ _ | refine blk_drew ?_ | refine blk_alloc ?_ _)); exact BK166.out⟩, ⟨by repeat (first | (with_reducible first | exact HB.out | apply below_alloc | apply pw_below_drewN | apply below_drew1 | refine below_set ?_ GE149.out | refine below_set ?_ GE150.out | refine below_set ?_ GE166.out) | exact HB.out)⟩⟩
          case rest =>
            clear HC18
            try clear c1
            try clear q1
            try clear c2
            try clear p2
            try clear c3
            try clear c4
            try clear c5
            try clear c7
            try clear c8
            try clear c10
            try clear c11
            try clear c16
            try clear q16
            try clear c22
            try clear c23
            try clear c25
            try clear c25b0
            try clear c26
            try clear c27
            try clear c29
            try clear c31
            try clear c31b0
            try clear c31b1
            try clear c32
            try clear c32b0
            try clear c33
            try clear c34
            try clear c36
            try clear c38
            try clear c38b0
            try clear c38b1
            try clear c39
            try clear c40
            try clear c42
            try clear c44
            try clear c45
            try clear c47
            try clear c49
            try clear c50
            try clear c52
            try clear hcz12_0
            try clear hcz12_1
            try clear hcz12_2
            try clear hcz14_0
            try clear hcz14_1
            try clear hcz14_2
            try clear hcz24_0
            try clear hcz24_1
            try clear hcz24_2
            try clear hcz28_0
            try clear hcz28_1
            try clear hcz28_2
            try clear hcz30_0
            try clear hcz30_1
            try clear hcz30_2
            try clear hcz35_0
            try clear hcz35_1
            try clear hcz35_2
            try clear hcz37_0
            try clear hcz37_1
            try clear hcz37_2
            try clear hcz41_0
            try clear hcz41_1
            try clear hcz41_2
            try clear hcz43_0
            try clear hcz43_1
            try clear hcz43_2
            try clear hcz46_0
            try clear hcz46_1
            try clear hcz46_2
            try clear hcz48_0
            try clear hcz48_1
            try clear hcz48_2
            try clear hcz51_0
            try clear hcz51_1
            try clear hcz51_2
            try clear hcz53_0
            try clear hcz53_1
            try clear hcz53_2
            try clear hfz12_0
            try clear hfz12_1
            try clear hfz12_2
            try clear hfz14_0
            try clear hfz14_1
            try clear hfz14_2
            try clear hfz24_0
            try clear hfz24_1
            try clear hfz24_2
            try clear hfz28_0
            try clear hfz28_1
            try clear hfz28_2
            try clear hfz30_0
            try clear hfz30_1
            try clear hfz30_2
            try clear hfz35_0
            try clear hfz35_1
            try clear hfz35_2
            try clear hfz37_0
            try clear hfz37_1
            try clear hfz37_2
            try clear hfz41_0
            try clear hfz41_1
            try clear hfz41_2
            try clear hfz43_0
            try clear hfz43_1
            try clear hfz43_2
            try clear hfz46_0
            try clear hfz46_1
            try clear hfz46_2
            try clear hfz48_0
            try clear hfz48_1
            try clear hfz48_2
            try clear hfz51_0
            try clear hfz51_1
            try clear hfz51_2
            try clear hfz53_0
            try clear hfz53_1
            try clear hfz53_2
            try clear p2
            try clear q1
            try clear q160
            try clear q161
            obtain ⟨kq, x12_17, rfl, HA, HJ17, HO_6, HO_8, BK149, BK150, BK166, HB⟩ := hcut
            cases kq with
            | zero => exact absurd HA.out (by simp [pledgelaw9_RecOrders.j1])
            | succ kj17 =>
              have H := HA.out
              clear HA
              simp only [pledgelaw9_RecOrders.j1] at H
              have HC54 := Aside0.mk H
              clear H
              go_upto_region 10 with (fail)
              go_cut [4] (fun v4 wc => ∃ (kq : Nat) (x4_53 : Bool), v4 = .bool x4_53 ∧ Aside0 (pledgelaw9_RecOrders.j2 kq x4_53 = some r) ∧ Aside0 (kq ≤ kj17) ∧ Aside0 (wc.heap[gb149]? = some (.cells #[.int .i64 a0_0, .int .i64 a0_1, .int .i64 a0_2] 29 (0, 0))) ∧ Aside0 (wc.heap[gb150]? = some (.cells #[.int .i64 a1_0, .int .i64 a1_1, .int .i64 a1_2] 29 (0, 0))) ∧ Aside0 (wc.heap[gb166]? = some (.cells #[.int .i64 t162, .int .i64 t163, .int .i64 t164] 29 (0, 0))) ∧ Aside0 (Below w.heap.size w wc))
              case first =>
                have H := HC54.out
                clear HC54
                have H1 : (if t165.isNone = true then (if t162 = a0_0 then (if t163 = a0_1 then (if t164 = a0_2 then ((rec_Less.f kj17 a0_0 a0_1 a0_2 a1_0 a1_1 a1_2).bind fun t168 => (if (t168 == x12_17) = true then ((pledgeref_Ahead.f kj17 t152 t156).bind fun t169 => (pledgelaw9_RecOrders.j2 kj17 (t169 == x12_17))) else (pledgelaw9_RecOrders.j2 kj17 false))) else (pledgelaw9_RecOrders.j2 kj17 false)) else (pledgelaw9_RecOrders.j2 kj17 false)) else (pledgelaw9_RecOrders.j2 kj17 false)) else (pledgelaw9_RecOrders.j2 kj17 false)) = some r := by first | (rw [if_pos rfl] at H; exact H) | (rw [if_pos trivial] at H; exact H)
                clear H
                have H := H1
                clear H1
                rcases t165 with _ | q167
                · have H1 : (if t162 = a0_0 then (if t163 = a0_1 then (if t164 = a0_2 then ((rec_Less.f kj17 a0_0 a0_1 a0_2 a1_0 a1_1 a1_2).bind fun t168 => (if (t168 == x12_17) = true then ((pledgeref_Ahead.f kj17 t152 t156).bind fun t169 => (pledgelaw9_RecOrders.j2 kj17 (t169 == x12_17))) else (pledgelaw9_RecOrders.j2 kj17 false))) else (pledgelaw9_RecOrders.j2 kj17 false)) else (pledgelaw9_RecOrders.j2 kj17 false)) else (pledgelaw9_RecOrders.j2 kj17 false)) = some r := by rw [if_pos (show (none : Option Int).isNone = true by rfl)] at H; exact H
                  clear H
                  have H := H1
                  clear H1
                  try simp only [errW_none, errW_some]
                  by_cases c55 : t162 = a0_0
                  · rw [if_pos c55] at H
                    have c55b0 : (t162 == a0_0) = true := beq_iff_eq.mpr c55
                    have c55b1 : (t162 != a0_0) = false := bne_eq_false_iff_eq.mpr c55
                    clear c55
                    (first | rw [c55b0] | (simp only [i64_w, i32_w]; rw [c55b0]) | skip)
                    by_cases c56 : t163 = a0_1
                    · rw [if_pos c56] at H
                      have c56b0 : (t163 == a0_1) = true := beq_iff_eq.mpr c56
                      have c56b1 : (t163 != a0_1) = false := bne_eq_false_iff_eq.mpr c56
                      clear c56
                      by_cases c57 : t164 = a0_2
                      · rw [if_pos c57] at H
                        have c57b0 : (t164 == a0_2) = true := beq_iff_eq.mpr c57
                        have c57b1 : (t164 != a0_2) = false := bne_eq_false_iff_eq.mpr c57
                        clear c57
                        replace H := Option.bind_eq_some_iff.mp H
                        obtain ⟨t168, A580, H⟩ := H
                        replace H : (if (t168 == x12_17) = true then ((pledgeref_Ahead.f kj17 t152 t156).bind fun t169 => (pledgelaw9_RecOrders.j2 kj17 (t169 == x12_17))) else (pledgelaw9_RecOrders.j2 kj17 false)) = some r := H
                        have A58 := Aside0.mk A580
                        clear A580
                        by_cases c59 : (t168 == x12_17) = true
                        · rw [if_pos c59] at H
                          have c59b0 : (t168 == x12_17) = true := c59
                          (try (have c59b1 : decide (t168 = x12_17) = true := by simpa using c59))
                          (try (have c59b2 : (t168 == x12_17) = true := by simpa using c59))
                          clear c59
                          replace H := Option.bind_eq_some_iff.mp H
                          obtain ⟨t169, A600, H⟩ := H
                          replace H : (pledgelaw9_RecOrders.j2 kj17 (t169 == x12_17)) = some r := H
                          have A60 := Aside0.mk A600
                          clear A600
                          have H' := Aside0.mk H
                          clear H
                          have hnb61 := NB166_149.out
                          have hnc61 := NB149_166.out
                          have hnb62 := NB166_150.out
                          have hnc62 := NB150_166.out
                          have hcz63_0 : wc.cell? ⟨gb166, 0, none⟩ = some (.int .i64 t162) := (blk_cell BK166.out 0).trans rfl
                          have hcz63_1 : wc.cell? ⟨gb166, 1, none⟩ = some (.int .i64 t163) := (blk_cell BK166.out 1).trans rfl
                          have hcz63_2 : wc.cell? ⟨gb166, 2, none⟩ = some (.int .i64 t164) := (blk_cell BK166.out 2).trans rfl
                          have hfz63_0 := blk_frozen BK166.out 0
                          have hfz63_1 := blk_frozen BK166.out 1
                          have hfz63_2 := blk_frozen BK166.out 2
                          have hnb64 := NB149_150.out
                          have hnc64 := NB150_149.out
                          have hcz65_0 : wc.cell? ⟨gb149, 0, none⟩ = some (.int .i64 a0_0) := (blk_cell BK149.out 0).trans rfl
                          have hcz65_1 : wc.cell? ⟨gb149, 1, none⟩ = some (.int .i64 a0_1) := (blk_cell BK149.out 1).trans rfl
                          have hcz65_2 : wc.cell? ⟨gb149, 2, none⟩ = some (.int .i64 a0_2) := (blk_cell BK149.out 2).trans rfl
                          have hfz65_0 := blk_frozen BK149.out 0
                          have hfz65_1 := blk_frozen BK149.out 1
                          have hfz65_2 := blk_frozen BK149.out 2
                          have hcz66_0 : wc.cell? ⟨gb150, 0, none⟩ = some (.int .i64 a1_0) := (blk_cell BK150.out 0).trans rfl
                          have hcz66_1 : wc.cell? ⟨gb150, 1, none⟩ = some (.int .i64 a1_1) := (blk_cell BK150.out 1).trans rfl
                          have hcz66_2 : wc.cell? ⟨gb150, 2, none⟩ = some (.int .i64 a1_2) := (blk_cell BK150.out 2).trans rfl
                          have hfz66_0 := blk_frozen BK150.out 0
                          have hfz66_1 := blk_frozen BK150.out 1
                          have hfz66_2 := blk_frozen BK150.out 2
                          go_wp2_with (first | (go_at_call 12; (with_reducible refine (rec_Less.calls kj17 a0_0 a0_1 a0_2 a1_0 a1_1 a1_2 t168 _ A58.out).mono ?_); rintro e w67 ⟨rfl, hb⟩; have n0_ := Aside0.mk (Kd.R_below (by (with_reducible repeat (first | apply Kd.R_alloc | apply Kd.R_drewN | apply Kd.R_drew)); exact HO_6.out) hb); have n1_ := Aside0.mk (Kd.R_below (by (with_reducible repeat (first | apply Kd.R_alloc | apply Kd.R_drewN | apply Kd.R_drew)); exact HO_8.out) hb); have n2_ := Aside0.mk (blk_below (g := gb149) (o := .cells #[.int .i64 a0_0, .int .i64 a0_1, .int .i64 a0_2] 29 (0, 0)) (by (with_reducible repeat (first | refine blk_drewN ?_ _ | refine blk_drew ?_ | refine blk_alloc ?_ _)); exact BK149.out) hb); have n3_ := Aside0.mk (blk_below (g := gb150) (o := .cells #[.int .i64 a1_0, .int .i64 a1_1, .int .i64 a1_2] 29 (0, 0)) (by (with_reducible repeat (first | refine blk_drewN ?_ _ | refine blk_drew ?_ | refine blk_alloc ?_ _)); exact BK150.out) hb); have n4_ := Aside0.mk (blk_below (g := gb166) (o := .cells #[.int .i64 t162, .int .i64 t163, .int .i64 t164] 29 (0, 0)) (by (with_reducible repeat (first | refine blk_drewN ?_ _ | refine blk_drew ?_ | refine blk_alloc ?_ _)); exact BK166.out) hb); have n5_ := Aside0.mk (below_step (by repeat (first | (with_reducible first | exact HB.out | apply below_alloc | apply pw_below_drewN | apply below_drew1 | refine below_set ?_ GE149.out | refine below_set ?_ GE150.out | refine below_set ?_ GE166.out) | exact HB.out)) hb); clear HO_6; clear HO_8; clear BK149; clear BK150; clear BK166; clear HB; have HO_6 := n0_; have HO_8 := n1_; have BK149 := n2_; have BK150 := n3_; have BK166 := n4_; have HB := n5_; clear n0_ n1_ n2_ n3_ n4_ n5_; (try clear hb); (try clear hb2); (try clear hk); (try clear hi); obtain ⟨Ao68, co68, eo68⟩ := Kd.R_slice HO_8.out; subst eo68) | (go_at_call 13; (with_reducible refine (pledgeref_Ahead.calls kj17 _ _ t152 _ _ t156 t169 _ ?side1 ?side2 ?side3 ?side4 A60.out).mono ?_); (case side1 => repeat (first | exact (Kd.R_reads' HO_6.out).2.2 | (with_reducible refine Kd.C_alloc ?_ _) | (with_reducible refine Kd.C_drewN ?_ _) | (with_reducible refine Kd.C_drew ?_))); (case side2 => exact (Kd.R_reads' HO_6.out).2.1); (case side3 => repeat (first | exact (Kd.R_reads' HO_8.out).2.2 | (with_reducible refine Kd.C_alloc ?_ _) | (with_reducible refine Kd.C_drewN ?_ _) | (with_reducible refine Kd.C_drew ?_))); (case side4 => exact (Kd.R_reads' HO_8.out).2.1); rintro e w69 ⟨rfl, hb⟩; have n0_ := Aside0.mk (Kd.R_below (by (with_reducible repeat (first | apply Kd.R_alloc | apply Kd.R_drewN | apply Kd.R_drew)); exact HO_6.out) hb); have n1_ := Aside0.mk (Kd.R_below (by (with_reducible repeat (first | apply Kd.R_alloc | apply Kd.R_drewN | apply Kd.R_drew)); exact HO_8.out) hb); have n2_ := Aside0.mk (blk_below (g := gb149) (o := .cells #[.int .i64 a0_0, .int .i64 a0_1, .int .i64 a0_2] 29 (0, 0)) (by (with_reducible repeat (first | refine blk_drewN ?_ _ | refine blk_drew ?_ | refine blk_alloc ?_ _)); exact BK149.out) hb); have n3_ := Aside0.mk (blk_below (g := gb150) (o := .cells #[.int .i64 a1_0, .int .i64 a1_1, .int .i64 a1_2] 29 (0, 0)) (by (with_reducible repeat (first | refine blk_drewN ?_ _ | refine blk_drew ?_ | refine blk_alloc ?_ _)); exact BK150.out) hb); have n4_ := Aside0.mk (blk_below (g := gb166) (o := .cells #[.int .i64 t162, .int .i64 t163, .int .i64 t164] 29 (0, 0)) (by (with_reducible repeat (first | refine blk_drewN ?_ _ | refine blk_drew ?_ | refine blk_alloc ?_ _)); exact BK166.out) hb); have n5_ := Aside0.mk (below_step (by repeat (first | (with_reducible first | exact HB.out | apply below_alloc | apply pw_below_drewN | apply below_drew1 | refine below_set ?_ GE149.out | refine below_set ?_ GE150.out | refine below_set ?_ GE166.out) | exact HB.out)) hb); clear HO_6; clear HO_8; clear BK149; clear BK150; clear BK166; clear HB; have HO_6 := n0_; have HO_8 := n1_; have BK149 := n2_; have BK150 := n3_; have BK166 := n4_; have HB := n5_; clear n0_ n1_ n2_ n3_ n4_ n5_; (try clear hb); (try clear hb2); (try clear hk); (try clear hi)))
                          go_meet
                          case rel => exact ⟨_, ((t169 == x12_17)), (by first | rfl | (simp; done) | (simp [*]; done)), H', ⟨by have := HJ6.out; have := HJ17.out; first | omega | exact Nat.le_refl _⟩, ⟨by (with_reducible repeat (first | refine blk_drewN ?_ _ | refine blk_drew ?_ | refine blk_alloc ?_ _)); exact BK149.out⟩, ⟨by (with_reducible repeat (first | refine blk_drewN ?_ _ | refine blk_drew ?_ | refine blk_alloc ?_ _)); exact BK150.out⟩, ⟨by (with_reducible repeat (first | refine blk_drewN ?_ _ | refine blk_drew ?_ | refine blk_alloc ?_ _)); exact BK166.out⟩, ⟨by repeat (first | (with_reducible first | exact HB.out | apply below_alloc | apply pw_below_drewN | apply below_drew1 | refine below_set ?_ GE149.out | refine below_set ?_ GE150.out | refine below_set ?_ GE166.out) | exact HB.out)⟩⟩
                        · rw [if_neg c59] at H
                          have c59b0 : (t168 == x12_17) = false := by simpa using c59
                          (try (have c59b1 : decide (t168 = x12_17) = false := by simpa using c59))
                          (try (have c59b2 : (t168 == x12_17) = false := by simpa using c59))
                          (try (have c59b3 : ¬ (t168 = x12_17) := by simpa using c59))
                          clear c59
                          have H' := Aside0.mk H
                          clear H
                          have hnb70 := NB166_149.out
                          have hnc70 := NB149_166.out
                          have hnb71 := NB166_150.out
                          have hnc71 := NB150_166.out
                          have hcz72_0 : wc.cell? ⟨gb166, 0, none⟩ = some (.int .i64 t162) := (blk_cell BK166.out 0).trans rfl
                          have hcz72_1 : wc.cell? ⟨gb166, 1, none⟩ = some (.int .i64 t163) := (blk_cell BK166.out 1).trans rfl
                          have hcz72_2 : wc.cell? ⟨gb166, 2, none⟩ = some (.int .i64 t164) := (blk_cell BK166.out 2).trans rfl
                          have hfz72_0 := blk_frozen BK166.out 0
                          have hfz72_1 := blk_frozen BK166.out 1
                          have hfz72_2 := blk_frozen BK166.out 2
                          have hnb73 := NB149_150.out
                          have hnc73 := NB150_149.out
                          have hcz74_0 : wc.cell? ⟨gb149, 0, none⟩ = some (.int .i64 a0_0) := (blk_cell BK149.out 0).trans rfl
                          have hcz74_1 : wc.cell? ⟨gb149, 1, none⟩ = some (.int .i64 a0_1) := (blk_cell BK149.out 1).trans rfl
                          have hcz74_2 : wc.cell? ⟨gb149, 2, none⟩ = some (.int .i64 a0_2) := (blk_cell BK149.out 2).trans rfl
                          have hfz74_0 := blk_frozen BK149.out 0
                          have hfz74_1 := blk_frozen BK149.out 1
                          have hfz74_2 := blk_frozen BK149.out 2
                          have hcz75_0 : wc.cell? ⟨gb150, 0, none⟩ = some (.int .i64 a1_0) := (blk_cell BK150.out 0).trans rfl
                          have hcz75_1 : wc.cell? ⟨gb150, 1, none⟩ = some (.int .i64 a1_1) := (blk_cell BK150.out 1).trans rfl
                          have hcz75_2 : wc.cell? ⟨gb150, 2, none⟩ = some (.int .i64 a1_2) := (blk_cell BK150.out 2).trans rfl
                          have hfz75_0 := blk_frozen BK150.out 0
                          have hfz75_1 := blk_frozen BK150.out 1
                          have hfz75_2 := blk_frozen BK150.out 2
                          go_wp2_with (first | (go_at_call 12; (with_reducible refine (rec_Less.calls kj17 a0_0 a0_1 a0_2 a1_0 a1_1 a1_2 t168 _ A58.out).mono ?_); rintro e w76 ⟨rfl, hb⟩; have n0_ := Aside0.mk (Kd.R_below (by (with_reducible repeat (first | apply Kd.R_alloc | apply Kd.R_drewN | apply Kd.R_drew)); exact HO_6.out) hb); have n1_ := Aside0.mk (Kd.R_below (by (with_reducible repeat (first | apply Kd.R_alloc | apply Kd.R_drewN | apply Kd.R_drew)); exact HO_8.out) hb); have n2_ := Aside0.mk (blk_below (g := gb149) (o := .cells #[.int .i64 a0_0, .int .i64 a0_1, .int .i64 a0_2] 29 (0, 0)) (by (with_reducible repeat (first | refine blk_drewN ?_ _ | refine blk_drew ?_ | refine blk_alloc ?_ _)); exact BK149.out) hb); have n3_ := Aside0.mk (blk_below (g := gb150) (o := .cells #[.int .i64 a1_0, .int .i64 a1_1, .int .i64 a1_2] 29 (0, 0)) (by (with_reducible repeat (first | refine blk_drewN ?_ _ | refine blk_drew ?_ | refine blk_alloc ?_ _)); exact BK150.out) hb); have n4_ := Aside0.mk (blk_below (g := gb166) (o := .cells #[.int .i64 t162, .int .i64 t163, .int .i64 t164] 29 (0, 0)) (by (with_reducible repeat (first | refine blk_drewN ?_ _ | refine blk_drew ?_ | refine blk_alloc ?_ _)); exact BK166.out) hb); have n5_ := Aside0.mk (below_step (by repeat (first | (with_reducible first | exact HB.out | apply below_alloc | apply pw_below_drewN | apply below_drew1 | refine below_set ?_ GE149.out | refine below_set ?_ GE150.out | refine below_set ?_ GE166.out) | exact HB.out)) hb); clear HO_6; clear HO_8; clear BK149; clear BK150; clear BK166; clear HB; have HO_6 := n0_; have HO_8 := n1_; have BK149 := n2_; have BK150 := n3_; have BK166 := n4_; have HB := n5_; clear n0_ n1_ n2_ n3_ n4_ n5_; (try clear hb); (try clear hb2); (try clear hk); (try clear hi)))
                          go_meet
                          case rel => exact ⟨_, (false), (by first | rfl | (simp; done) | (simp [*]; done)), H', ⟨by have := HJ6.out; have := HJ17.out; first | omega | exact Nat.le_refl _⟩, ⟨by (with_reducible repeat (first | refine blk_drewN ?_ _ | refine blk_drew ?_ | refine blk_alloc ?_ _)); exact BK149.out⟩, ⟨by (with_reducible repeat (first | refine blk_drewN ?_ _ | refine blk_drew ?_ | refine blk_alloc ?_ _)); exact BK150.out⟩, ⟨by (with_reducible repeat (first | refine blk_drewN ?_ _ | refine blk_drew ?_ | refine blk_alloc ?_ _)); exact BK166.out⟩, ⟨by repeat (first | (with_reducible first | exact HB.out | apply below_alloc | apply pw_below_drewN | apply below_drew1 | refine below_set ?_ GE149.out | refine below_set ?_ GE150.out | refine below_set ?_ GE166.out) | exact HB.out)⟩⟩
                      · rw [if_neg c57] at H
                        have c57b0 : (t164 == a0_2) = false := beq_eq_false_iff_ne.mpr c57
                        have c57b1 : (t164 != a0_2) = true := bne_iff_ne.mpr c57
                        have H' := Aside0.mk H
                        clear H
                        have hnb77 := NB166_149.out
                        have hnc77 := NB149_166.out
                        have hnb78 := NB166_150.out
                        have hnc78 := NB150_166.out
                        have hcz79_0 : wc.cell? ⟨gb166, 0, none⟩ = some (.int .i64 t162) := (blk_cell BK166.out 0).trans rfl
                        have hcz79_1 : wc.cell? ⟨gb166, 1, none⟩ = some (.int .i64 t163) := (blk_cell BK166.out 1).trans rfl
                        have hcz79_2 : wc.cell? ⟨gb166, 2, none⟩ = some (.int .i64 t164) := (blk_cell BK166.out 2).trans rfl
                        have hfz79_0 := blk_frozen BK166.out 0
                        have hfz79_1 := blk_frozen BK166.out 1
                        have hfz79_2 := blk_frozen BK166.out 2
                        have hnb80 := NB149_150.out
                        have hnc80 := NB150_149.out
                        have hcz81_0 : wc.cell? ⟨gb149, 0, none⟩ = some (.int .i64 a0_0) := (blk_cell BK149.out 0).trans rfl
                        have hcz81_1 : wc.cell? ⟨gb149, 1, none⟩ = some (.int .i64 a0_1) := (blk_cell BK149.out 1).trans rfl
                        have hcz81_2 : wc.cell? ⟨gb149, 2, none⟩ = some (.int .i64 a0_2) := (blk_cell BK149.out 2).trans rfl
                        have hfz81_0 := blk_frozen BK149.out 0
                        have hfz81_1 := blk_frozen BK149.out 1
                        have hfz81_2 := blk_frozen BK149.out 2
                        go_wp2
                        go_meet
                        case rel => exact ⟨_, (false), (by first | rfl | (simp; done) | (simp [*]; done)), H', ⟨by have := HJ6.out; have := HJ17.out; first | omega | exact Nat.le_refl _⟩, ⟨by (with_reducible repeat (first | refine blk_drewN ?_ _ | refine blk_drew ?_ | refine blk_alloc ?_ _)); exact BK149.out⟩, ⟨by (with_reducible repeat (first | refine blk_drewN ?_ _ | refine blk_drew ?_ | refine blk_alloc ?_ _)); exact BK150.out⟩, ⟨by (with_reducible repeat (first | refine blk_drewN ?_ _ | refine blk_drew ?_ | refine blk_alloc ?_ _)); exact BK166.out⟩, ⟨by repeat (first | (with_reducible first | exact HB.out | apply below_alloc | apply pw_below_drewN | apply below_drew1 | refine below_set ?_ GE149.out | refine below_set ?_ GE150.out | refine below_set ?_ GE166.out) | exact HB.out)⟩⟩
                    · rw [if_neg c56] at H
                      have c56b0 : (t163 == a0_1) = false := beq_eq_false_iff_ne.mpr c56
                      have c56b1 : (t163 != a0_1) = true := bne_iff_ne.mpr c56
                      have H' := Aside0.mk H
                      clear H
                      have hnb82 := NB166_149.out
                      have hnc82 := NB149_166.out
                      have hnb83 := NB166_150.out
                      have hnc83 := NB150_166.out
                      have hcz84_0 : wc.cell? ⟨gb166, 0, none⟩ = some (.int .i64 t162) := (blk_cell BK166.out 0).trans rfl
                      have hcz84_1 : wc.cell? ⟨gb166, 1, none⟩ = some (.int .i64 t163) := (blk_cell BK166.out 1).trans rfl
                      have hcz84_2 : wc.cell? ⟨gb166, 2, none⟩ = some (.int .i64 t164) := (blk_cell BK166.out 2).trans rfl
                      have hfz84_0 := blk_frozen BK166.out 0
                      have hfz84_1 := blk_frozen BK166.out 1
                      have hfz84_2 := blk_frozen BK166.out 2
                      have hnb85 := NB149_150.out
                      have hnc85 := NB150_149.out
                      have hcz86_0 : wc.cell? ⟨gb149, 0, none⟩ = some (.int .i64 a0_0) := (blk_cell BK149.out 0).trans rfl
                      have hcz86_1 : wc.cell? ⟨gb149, 1, none⟩ = some (.int .i64 a0_1) := (blk_cell BK149.out 1).trans rfl
                      have hcz86_2 : wc.cell? ⟨gb149, 2, none⟩ = some (.int .i64 a0_2) := (blk_cell BK149.out 2).trans rfl
                      have hfz86_0 := blk_frozen BK149.out 0
                      have hfz86_1 := blk_frozen BK149.out 1
                      have hfz86_2 := blk_frozen BK149.out 2
                      go_wp2
                      go_meet
                      case rel => exact ⟨_, (false), (by first | rfl | (simp; done) | (simp [*]; done)), H', ⟨by have := HJ6.out; have := HJ17.out; first | omega | exact Nat.le_refl _⟩, ⟨by (with_reducible repeat (first | refine blk_drewN ?_ _ | refine blk_drew ?_ | refine blk_alloc ?_ _)); exact BK149.out⟩, ⟨by (with_reducible repeat (first | refine blk_drewN ?_ _ | refine blk_drew ?_ | refine blk_alloc ?_ _)); exact BK150.out⟩, ⟨by (with_reducible repeat (first | refine blk_drewN ?_ _ | refine blk_drew ?_ | refine blk_alloc ?_ _)); exact BK166.out⟩, ⟨by repeat (first | (with_reducible first | exact HB.out | apply below_alloc | apply pw_below_drewN | apply below_drew1 | refine below_set ?_ GE149.out | refine below_set ?_ GE150.out | refine below_set ?_ GE166.out) | exact HB.out)⟩⟩
                  · rw [if_neg c55] at H
                    have c55b0 : (t162 == a0_0) = false := beq_eq_false_iff_ne.mpr c55
                    have c55b1 : (t162 != a0_0) = true := bne_iff_ne.mpr c55
                    (first | rw [c55b0] | (simp only [i64_w, i32_w]; rw [c55b0]) | skip)
                    have H' := Aside0.mk H
                    clear H
                    have hnb87 := NB166_149.out
                    have hnc87 := NB149_166.out
                    have hnb88 := NB166_150.out
                    have hnc88 := NB150_166.out
                    have hcz89_0 : wc.cell? ⟨gb166, 0, none⟩ = some (.int .i64 t162) := (blk_cell BK166.out 0).trans rfl
                    have hcz89_1 : wc.cell? ⟨gb166, 1, none⟩ = some (.int .i64 t163) := (blk_cell BK166.out 1).trans rfl
                    have hcz89_2 : wc.cell? ⟨gb166, 2, none⟩ = some (.int .i64 t164) := (blk_cell BK166.out 2).trans rfl
                    have hfz89_0 := blk_frozen BK166.out 0
                    have hfz89_1 := blk_frozen BK166.out 1
                    have hfz89_2 := blk_frozen BK166.out 2
                    have hnb90 := NB149_150.out
                    have hnc90 := NB150_149.out
                    have hcz91_0 : wc.cell? ⟨gb149, 0, none⟩ = some (.int .i64 a0_0) := (blk_cell BK149.out 0).trans rfl
                    have hcz91_1 : wc.cell? ⟨gb149, 1, none⟩ = some (.int .i64 a0_1) := (blk_cell BK149.out 1).trans rfl
                    have hcz91_2 : wc.cell? ⟨gb149, 2, none⟩ = some (.int .i64 a0_2) := (blk_cell BK149.out 2).trans rfl
                    have hfz91_0 := blk_frozen BK149.out 0
                    have hfz91_1 := blk_frozen BK149.out 1
                    have hfz91_2 := blk_frozen BK149.out 2
                    go_wp2
                    go_meet
                    case rel => exact ⟨_, (false), (by first | rfl | (simp; done) | (simp [*]; done)), H', ⟨by have := HJ6.out; have := HJ17.out; first | omega | exact Nat.le_refl _⟩, ⟨by (with_reducible repeat (first | refine blk_drewN ?_ _ | refine blk_drew ?_ | refine blk_alloc ?_ _)); exact BK149.out⟩, ⟨by (with_reducible repeat (first | refine blk_drewN ?_ _ | refine blk_drew ?_ | refine blk_alloc ?_ _)); exact BK150.out⟩, ⟨by (with_reducible repeat (first | refine blk_drewN ?_ _ | refine blk_drew ?_ | refine blk_alloc ?_ _)); exact BK166.out⟩, ⟨by repeat (first | (with_reducible first | exact HB.out | apply below_alloc | apply pw_below_drewN | apply below_drew1 | refine below_set ?_ GE149.out | refine below_set ?_ GE150.out | refine below_set ?_ GE166.out) | exact HB.out)⟩⟩
                · have H1 : (pledgelaw9_RecOrders.j2 kj17 false) = some r := by rw [if_neg (show ¬ (some q167).isNone = true by simp)] at H; exact H
                  clear H
                  have H := H1
                  clear H1
                  try simp only [errW_none, errW_some]
                  have H' := Aside0.mk H
                  clear H
                  go_wp2
                  go_meet
                  case rel => exact ⟨_, (false), (by first | rfl | (simp; done) | (simp [*]; done)), H', ⟨by have := HJ6.out; have := HJ17.out; first | omega | exact Nat.le_refl _⟩, ⟨by (with_reducible repeat (first | refine blk_drewN ?_ _ | refine blk_drew ?_ | refine blk_alloc ?_ _)); exact BK149.out⟩, ⟨by (with_reducible repeat (first | refine blk_drewN ?_ _ | refine blk_drew ?_ | refine blk_alloc ?_ _)); exact BK150.out⟩, ⟨by (with_reducible repeat (first | refine blk_drewN ?_ _ | refine blk_drew ?_ | refine blk_alloc ?_ _)); exact BK166.out⟩, ⟨by repeat (first | (with_reducible first | exact HB.out | apply below_alloc | apply pw_below_drewN | apply below_drew1 | refine below_set ?_ GE149.out | refine below_set ?_ GE150.out | refine below_set ?_ GE166.out) | exact HB.out)⟩⟩
              case rest =>
                clear HC54
                try clear c1
                try clear q1
                try clear c2
                try clear p2
                try clear c3
                try clear c4
                try clear c5
                try clear c6
                try clear c7
                try clear c8
                try clear c9
                try clear c10
                try clear c11
                try clear c16
                try clear q16
                try clear c22
                try clear c23
                try clear c25
                try clear c25b0
                try clear c26
                try clear c27
                try clear c29
                try clear c31
                try clear c31b0
                try clear c31b1
                try clear c32
                try clear c32b0
                try clear c33
                try clear c34
                try clear c36
                try clear c38
                try clear c38b0
                try clear c38b1
                try clear c39
                try clear c40
                try clear c42
                try clear c44
                try clear c45
                try clear c47
                try clear c49
                try clear c50
                try clear c52
                try clear c55
                try clear c55b0
                try clear c55b1
                try clear c56
                try clear c56b0
                try clear c56b1
                try clear c57
                try clear c57b0
                try clear c57b1
                try clear c59
                try clear c59b0
                try clear c59b1
                try clear c59b2
                try clear c61
                try clear c62
                try clear c64
                try clear c70
                try clear c71
                try clear c73
                try clear c77
                try clear c78
                try clear c80
                try clear c82
                try clear c83
                try clear c85
                try clear c87
                try clear c88
                try clear c90
                try clear hcz12_0
                try clear hcz12_1
                try clear hcz12_2
                try clear hcz14_0
                try clear hcz14_1
                try clear hcz14_2
                try clear hcz24_0
                try clear hcz24_1
                try clear hcz24_2
                try clear hcz28_0
                try clear hcz28_1
                try clear hcz28_2
                try clear hcz30_0
                try clear hcz30_1
                try clear hcz30_2
                try clear hcz35_0
                try clear hcz35_1
                try clear hcz35_2
                try clear hcz37_0
                try clear hcz37_1
                try clear hcz37_2
                try clear hcz41_0
                try clear hcz41_1
                try clear hcz41_2
                try clear hcz43_0
                try clear hcz43_1
                try clear hcz43_2
                try clear hcz46_0
                try clear hcz46_1
                try clear hcz46_2
                try clear hcz48_0
                try clear hcz48_1
                try clear hcz48_2
                try clear hcz51_0
                try clear hcz51_1
                try clear hcz51_2
                try clear hcz53_0
                try clear hcz53_1
                try clear hcz53_2
                try clear hcz63_0
                try clear hcz63_1
                try clear hcz63_2
                try clear hcz65_0
                try clear hcz65_1
                try clear hcz65_2
                try clear hcz66_0
                try clear hcz66_1
                try clear hcz66_2
                try clear hcz72_0
                try clear hcz72_1
                try clear hcz72_2
                try clear hcz74_0
                try clear hcz74_1
                try clear hcz74_2
                try clear hcz75_0
                try clear hcz75_1
                try clear hcz75_2
                try clear hcz79_0
                try clear hcz79_1
                try clear hcz79_2
                try clear hcz81_0
                try clear hcz81_1
                try clear hcz81_2
                try clear hcz84_0
                try clear hcz84_1
                try clear hcz84_2
                try clear hcz86_0
                try clear hcz86_1
                try clear hcz86_2
                try clear hcz89_0
                try clear hcz89_1
                try clear hcz89_2
                try clear hcz91_0
                try clear hcz91_1
                try clear hcz91_2
                try clear hfz12_0
                try clear hfz12_1
                try clear hfz12_2
                try clear hfz14_0
                try clear hfz14_1
                try clear hfz14_2
                try clear hfz24_0
                try clear hfz24_1
                try clear hfz24_2
                try clear hfz28_0
                try clear hfz28_1
                try clear hfz28_2
                try clear hfz30_0
                try clear hfz30_1
                try clear hfz30_2
                try clear hfz35_0
                try clear hfz35_1
                try clear hfz35_2
                try clear hfz37_0
                try clear hfz37_1
                try clear hfz37_2
                try clear hfz41_0
                try clear hfz41_1
                try clear hfz41_2
                try clear hfz43_0
                try clear hfz43_1
                try clear hfz43_2
                try clear hfz46_0
                try clear hfz46_1
                try clear hfz46_2
                try clear hfz48_0
                try clear hfz48_1
                try clear hfz48_2
                try clear hfz51_0
                try clear hfz51_1
                try clear hfz51_2
                try clear hfz53_0
                try clear hfz53_1
                try clear hfz53_2
                try clear hfz63_0
                try clear hfz63_1
                try clear hfz63_2
                try clear hfz65_0
                try clear hfz65_1
                try clear hfz65_2
                try clear hfz66_0
                try clear hfz66_1
                try clear hfz66_2
                try clear hfz72_0
                try clear hfz72_1
                try clear hfz72_2
                try clear hfz74_0
                try clear hfz74_1
                try clear hfz74_2
                try clear hfz75_0
                try clear hfz75_1
                try clear hfz75_2
                try clear hfz79_0
                try clear hfz79_1
                try clear hfz79_2
                try clear hfz81_0
                try clear hfz81_1
                try clear hfz81_2
                try clear hfz84_0
                try clear hfz84_1
                try clear hfz84_2
                try clear hfz86_0
                try clear hfz86_1
                try clear hfz86_2
                try clear hfz89_0
                try clear hfz89_1
                try clear hfz89_2
                try clear hfz91_0
                try clear hfz91_1
                try clear hfz91_2
                try clear p2
                try clear q1
                try clear q16
                try clear q160
                try clear q161
                try clear q167
                obtain ⟨kq, x4_53, rfl, HA, HJ53, BK149, BK150, BK166, HB⟩ := hcut
                cases kq with
                | zero => exact absurd HA.out (by simp [pledgelaw9_RecOrders.j2])
                | succ kj53 =>
                  have H := HA.out
                  clear HA
                  simp only [pledgelaw9_RecOrders.j2] at H
                  obtain rfl := Option.some.inj H
                  go_wp2
                  go_ret
                  exact ⟨by first | rfl | (simp [errW_none, errW_some] <;> rfl) | (exfalso; simp_all; done) | (simp [*, errW_none, errW_some] <;> rfl), by repeat (first | (with_reducible first | exact HB.out | apply below_alloc | apply pw_below_drewN | apply below_drew1 | refine below_set ?_ GE149.out | refine below_set ?_ GE150.out | refine below_set ?_ GE166.out) | exact HB.out)⟩
  · replace c4 := Bool.eq_false_iff.mpr c4
    subst c4
    have H1 : (some false) = some r := by rw [if_neg (show ¬ (false = true) by decide)] at H; exact H
    clear H
    have H := H1
    clear H1
    obtain rfl := Option.some.inj H
    go_enter Tryd.func4, Tryd.ntmps4
    go_wp2_with (first | ((with_reducible refine gate_dst (N := 2) rfl ?_); refine box_event ?hg (N := 2) ?hd (cs := #[.int .i64 a0_0, .int .i64 a0_1, .int .i64 a0_2]) (t := 29) ?hr ?_; (case hd => rfl); (case hg => rfl); (case hr => first | (go_simp; done) | (go_simp; rfl)); intro gb149 hg w92 hbox hb; have n0_ := Aside0.mk (below_step (by repeat (first | (with_reducible first | exact HB.out | apply below_alloc | apply pw_below_drewN | apply below_drew1) | exact HB.out)) hb); have n1_ := Aside0.mk (hbox); have n2_ := Aside0.mk ((by rw [hg]; exact (below_size (by repeat (first | (with_reducible first | exact HB.out | apply below_alloc | apply pw_below_drewN | apply below_drew1) | exact HB.out))) : w.heap.size ≤ gb149)); have n3_ := Aside0.mk ((by rw [hg]; exact (below_size (by repeat (first | (with_reducible first | exact HB.out | apply below_alloc | apply pw_below_drewN | apply below_drew1) | exact HB.out))) : w.heap.size ≤ gb149)); clear HB; have HB := n0_; have BK149 := n1_; have GW149 := n2_; have GE149 := n3_; clear n0_ n1_ n2_ n3_; clear hb hbox hg) | ((with_reducible refine gate_dst (N := 3) rfl ?_); refine box_event ?hg (N := 3) ?hd (cs := #[.int .i64 a1_0, .int .i64 a1_1, .int .i64 a1_2]) (t := 29) ?hr ?_; (case hd => rfl); (case hg => rfl); (case hr => first | (go_simp; done) | (go_simp; rfl)); intro gb150 hg w93 hbox hb; have n0_ := Aside0.mk (blk_below (g := gb149) (o := .cells #[.int .i64 a0_0, .int .i64 a0_1, .int .i64 a0_2] 29 (0, 0)) (by (with_reducible repeat (first | refine blk_drewN ?_ _ | refine blk_drew ?_ | refine blk_alloc ?_ _)); exact BK149.out) hb); have n1_ := Aside0.mk (below_step (by repeat (first | (with_reducible first | exact HB.out | apply below_alloc | apply pw_below_drewN | apply below_drew1 | refine below_set ?_ GE149.out) | exact HB.out)) hb); have n2_ := Aside0.mk (hbox); have n3_ := Aside0.mk ((by rw [hg]; exact (below_size (by repeat (first | (with_reducible first | exact HB.out | apply below_alloc | apply pw_below_drewN | apply below_drew1 | refine below_set ?_ GE149.out) | exact HB.out))) : w.heap.size ≤ gb150)); have n4_ := Aside0.mk ((by rw [hg]; exact (below_size (by repeat (first | (with_reducible first | exact HB.out | apply below_alloc | apply pw_below_drewN | apply below_drew1 | refine below_set ?_ GE149.out) | exact HB.out))) : w.heap.size ≤ gb150)); have n5_ := Aside0.mk ((by rw [hg]; exact Nat.ne_of_lt (blk_lt (g := gb149) (o := .cells #[.int .i64 a0_0, .int .i64 a0_1, .int .i64 a0_2] 29 (0, 0)) (by (with_reducible repeat (first | refine blk_drewN ?_ _ | refine blk_drew ?_ | refine blk_alloc ?_ _)); exact BK149.out)) : gb149 ≠ gb150)); have n6_ := Aside0.mk ((by rw [hg]; exact Nat.ne_of_gt (blk_lt (g := gb149) (o := .cells #[.int .i64 a0_0, .int .i64 a0_1, .int .i64 a0_2] 29 (0, 0)) (by (with_reducible repeat (first | refine blk_drewN ?_ _ | refine blk_drew ?_ | refine blk_alloc ?_ _)); exact BK149.out)) : gb150 ≠ gb149)); clear BK149; clear HB; have BK149 := n0_; have HB := n1_; have BK150 := n2_; have GW150 := n3_; have GE150 := n4_; have NB149_150 := n5_; have NB150_149 := n6_; clear n0_ n1_ n2_ n3_ n4_ n5_ n6_; clear hb hbox hg) | ((with_reducible refine gate_callee (f := 7) rfl ?_); refine goesL_ (some 13) rfl rfl Tryd.func7 (by kernel_rfl) rfl #[] rfl (by (try simp only [List.map_toArray, List.map_cons, List.map_nil]); first | done | rfl | (simp only [List.length_drop, List.length_take]; rfl)) ?_; (with_reducible refine (pledgelaw9_first.calls k  false _ ?side1 A3.out).mono ?_); (case side1 => exact GlobOK.below HG.out (by repeat (first | (with_reducible first | exact HB.out | apply below_alloc | apply pw_below_drewN | apply below_drew1 | refine below_set ?_ GE149.out | refine below_set ?_ GE150.out) | exact HB.out))); rintro e w94 ⟨rfl, hb⟩; refine ⟨_, rfl, ?_⟩; have n0_ := Aside0.mk (blk_below (g := gb149) (o := .cells #[.int .i64 a0_0, .int .i64 a0_1, .int .i64 a0_2] 29 (0, 0)) (by (with_reducible repeat (first | refine blk_drewN ?_ _ | refine blk_drew ?_ | refine blk_alloc ?_ _)); exact BK149.out) hb); have n1_ := Aside0.mk (blk_below (g := gb150) (o := .cells #[.int .i64 a1_0, .int .i64 a1_1, .int .i64 a1_2] 29 (0, 0)) (by (with_reducible repeat (first | refine blk_drewN ?_ _ | refine blk_drew ?_ | refine blk_alloc ?_ _)); exact BK150.out) hb); have n2_ := Aside0.mk (below_step (by repeat (first | (with_reducible first | exact HB.out | apply below_alloc | apply pw_below_drewN | apply below_drew1 | refine below_set ?_ GE149.out | refine below_set ?_ GE150.out) | exact HB.out)) hb); clear BK149; clear BK150; clear HB; have BK149 := n0_; have BK150 := n1_; have HB := n2_; clear n0_ n1_ n2_; (try clear hb); (try clear hb2); (try clear hk); (try clear hi)))
    go_ret
    exact ⟨by first | rfl | (simp [errW_none, errW_some] <;> rfl) | (exfalso; simp_all; done) | (simp [*, errW_none, errW_some] <;> rfl), by repeat (first | (with_reducible first | exact HB.out | apply below_alloc | apply pw_below_drewN | apply below_drew1 | refine below_set ?_ GE149.out | refine below_set ?_ GE150.out) | exact HB.out)⟩

/-- The pure statement of pledgelaw9_RecOrders: numbers and lists alone. -/
def pledgelaw9_RecOrders.Pure : Prop := ∀ (a0_0 : Int) (a0_1 : Int) (a0_2 : Int) (a1_0 : Int) (a1_1 : Int) (a1_2 : Int), Rng .i64 a0_0 → Rng .i64 a0_1 → Rng .i64 a0_2 → Rng .i64 a1_0 → Rng .i64 a1_1 → Rng .i64 a1_2 → ∃ k, pledgelaw9_RecOrders.f k a0_0 a0_1 a0_2 a1_0 a1_1 a1_2 = some true

end Go.Proofs.YtelabafoknmkcaaDoor.ERecOrders
