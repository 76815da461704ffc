/- The functions that the law comes to, as plain functions, and for each a proof that the Go code comes to just these answers. Written by a program of this claim. Conditions: each theorem bears its own. -/
import Derived.Test.YtmofdacfijobdaaDoorEValueSaysx0
import Derived.Test.YtmofdacfijobdaaDoorEValueSaysx4
import Derived.Test.YtmofdacfijobdaaDoorEValueSaysx5
namespace Go.Proofs.YtmofdacfijobdaaDoor.EValueSays
open Go.RowKit Go.Proofs.YtmofdacfijobdaaDoorW.PrintWords Go.Proofs.YtmofdacfijobdaaDoorW.PrintLast Go.Proofs.YtmofdacfijobdaaDoorW.PrintMore Go.Proofs.YtmofdacfijobdaaDoorW.PrintOpen
attribute [local go_sem] max2_int min2_int max_two min_two max_three min_three max_four min_four   -- for this text's walks alone
set_option linter.unusedVariables false
set_option linter.unusedSimpArgs false

/-! ### pledgeref10_Value: function 9 -/
mutual
def pledgeref10_Value.j0 : Nat → Int → Int → Int → Int → Int → Int → Int → Int → Bool → Int → Int → Int → Int → Int → Int → Option (Int × Int × Int × Int)
 | 0, _, _, _, _, _, _, _, _, _, _, _, _, _, _, _ => none
 | k + 1, x9, x193000, x193001, x193002, x193003, x193004, x194000, x194001, x194002, x194003, x194004, x194005, x196000, x196001, x196002 => if x9 = 0 then ((pledgeref1_Base.f k x196000 x194004).bind fun bt198 => (pledgeref10_Value.j1 k bt198.2 x193000 x193001 x193002 x193003 x193004 x194000 x194001 x194002 x194003 x194004 x194005 x196000 bt198.1 x196002)) else (pledgeref10_Value.j1 k x9 x193000 x193001 x193002 x193003 x193004 x194000 x194001 x194002 x194003 x194004 x194005 x196000 x196001 x196002)
def pledgeref10_Value.j1 : Nat → Int → Int → Int → Int → Int → Int → Int → Int → Bool → Int → Int → Int → Int → Int → Int → Option (Int × Int × Int × Int)
 | 0, _, _, _, _, _, _, _, _, _, _, _, _, _, _, _ => none
 | k + 1, x9, x193000, x193001, x193002, x193003, x193004, x194000, x194001, x194002, x194003, x194004, x194005, x196000, x196001, x196002 => if x9 = 0 then ((pledgeref10_Counts.f x193000 x193001 x193002 x193003 x193004 x194000 x194001 x194002 x194003 x194004 x194005).bind fun t200 => (pledgeref10_Value.j2 k x9 t200 x194000 x194001 x194002 x194003 x194004 x194005 x196000 x196001 x196002)) else (pledgeref10_Value.j2 k x9 false x194000 x194001 x194002 x194003 x194004 x194005 x196000 x196001 x196002)
def pledgeref10_Value.j2 : Nat → Int → Bool → Int → Int → Bool → Int → Int → Int → Int → Int → Int → Option (Int × Int × Int × Int)
 | 0, _, _, _, _, _, _, _, _, _, _, _ => none
 | k + 1, x9, x48, x194000, x194001, x194002, x194003, x194004, x194005, x196000, x196001, x196002 => if x48 = true then ((pledgeref1_Less.f k x196001 x194005).bind fun bt201 => (if bt201.2 = 0 then (some (x196000, x196001, bt201.1, bt201.2)) else (some (0, 0, 0, bt201.2)))) else (if x9 = 0 then (some (x196000, x196001, x196002, x9)) else (some (0, 0, 0, x9)))
end
def pledgeref10_Value.f (k : Nat) (a0_0 : Int) (a0_1 : Int) (a0_2 : Int) (a0_3 : Int) (a0_4 : Int) (a1 : Int) (a2_0 : Int) (a2_1 : Int) (a2_2 : Bool) (a2_3 : Int) (a2_4 : Int) (a2_5 : Int) : Option (Int × Int × Int × Int) := if a0_2 = 1 then (if a1 < 0 then (some (0, 0, 0, 103)) else (if a1 > 1000000000000 then (some (0, 0, 0, 103)) else (pledgeref10_Value.j0 k 0 a0_0 a0_1 a0_2 a0_3 a0_4 a2_0 a2_1 a2_2 a2_3 a2_4 a2_5 a1 0 0))) else ((pledgeref1_Worth.f k a1 a2_3).bind fun bt196 => (pledgeref10_Value.j0 k bt196.2 a0_0 a0_1 a0_2 a0_3 a0_4 a2_0 a2_1 a2_2 a2_3 a2_4 a2_5 bt196.1 0 0))
theorem pledgeref10_Value.mono_l : ∀ k, (∀ y0 y1 y2 y3 y4 y5 y6 y7 y8 y9 y10 y11 y12 y13 y14, LeO (pledgeref10_Value.j0 k y0 y1 y2 y3 y4 y5 y6 y7 y8 y9 y10 y11 y12 y13 y14) (pledgeref10_Value.j0 (k + 1) y0 y1 y2 y3 y4 y5 y6 y7 y8 y9 y10 y11 y12 y13 y14)) ∧ (∀ y0 y1 y2 y3 y4 y5 y6 y7 y8 y9 y10 y11 y12 y13 y14, LeO (pledgeref10_Value.j1 k y0 y1 y2 y3 y4 y5 y6 y7 y8 y9 y10 y11 y12 y13 y14) (pledgeref10_Value.j1 (k + 1) y0 y1 y2 y3 y4 y5 y6 y7 y8 y9 y10 y11 y12 y13 y14)) ∧ (∀ y0 y1 y2 y3 y4 y5 y6 y7 y8 y9 y10, LeO (pledgeref10_Value.j2 k y0 y1 y2 y3 y4 y5 y6 y7 y8 y9 y10) (pledgeref10_Value.j2 (k + 1) y0 y1 y2 y3 y4 y5 y6 y7 y8 y9 y10))
 | 0 => ⟨fun _ _ _ _ _ _ _ _ _ _ _ _ _ _ _ r h => by simp [pledgeref10_Value.j0] at h, fun _ _ _ _ _ _ _ _ _ _ _ _ _ _ _ r h => by simp [pledgeref10_Value.j1] at h, fun _ _ _ _ _ _ _ _ _ _ _ r h => by simp [pledgeref10_Value.j2] at h⟩
 | k + 1 => by
  obtain ⟨ih0, ih1, ih2⟩ := pledgeref10_Value.mono_l k
  refine ⟨?_, ?_, ?_⟩
  ·
   intro y0 y1 y2 y3 y4 y5 y6 y7 y8 y9 y10 y11 y12 y13 y14
   unfold pledgeref10_Value.j0
   repeat' first
   | (with_reducible exact ih0 _ _ _ _ _ _ _ _ _ _ _ _ _ _ _)
   | (with_reducible exact ih1 _ _ _ _ _ _ _ _ _ _ _ _ _ _ _)
   | (with_reducible exact ih2 _ _ _ _ _ _ _ _ _ _ _)
   | (with_reducible exact pledgeref1_Base.mono _ _ _)
   | (with_reducible exact pledgeref1_Less.mono _ _ _)
   | (with_reducible exact pledgeref1_Worth.mono _ _ _)
   | (with_reducible exact LeO.refl _)
   | (with_reducible exact LeO.none _)
   | (with_reducible refine LeO.ite ?_ ?_)
   | (with_reducible refine LeO.bind ?_ (fun _ => ?_))
   | exact ih0 _ _ _ _ _ _ _ _ _ _ _ _ _ _ _
   | exact ih1 _ _ _ _ _ _ _ _ _ _ _ _ _ _ _
   | exact ih2 _ _ _ _ _ _ _ _ _ _ _
   | exact pledgeref1_Base.mono _ _ _
   | exact pledgeref1_Less.mono _ _ _
   | exact pledgeref1_Worth.mono _ _ _
   | exact LeO.none _
   | refine LeO.ite ?_ ?_
   | refine LeO.bind ?_ (fun _ => ?_)
  ·
   intro y0 y1 y2 y3 y4 y5 y6 y7 y8 y9 y10 y11 y12 y13 y14
   unfold pledgeref10_Value.j1
   repeat' first
   | (with_reducible exact ih0 _ _ _ _ _ _ _ _ _ _ _ _ _ _ _)
   | (with_reducible exact ih1 _ _ _ _ _ _ _ _ _ _ _ _ _ _ _)
   | (with_reducible exact ih2 _ _ _ _ _ _ _ _ _ _ _)
   | (with_reducible exact pledgeref1_Base.mono _ _ _)
   | (with_reducible exact pledgeref1_Less.mono _ _ _)
   | (with_reducible exact pledgeref1_Worth.mono _ _ _)
   | (with_reducible exact LeO.refl _)
   | (with_reducible exact LeO.none _)
   | (with_reducible refine LeO.ite ?_ ?_)
   | (with_reducible refine LeO.bind ?_ (fun _ => ?_))
   | exact ih0 _ _ _ _ _ _ _ _ _ _ _ _ _ _ _
   | exact ih1 _ _ _ _ _ _ _ _ _ _ _ _ _ _ _
   | exact ih2 _ _ _ _ _ _ _ _ _ _ _
   | exact pledgeref1_Base.mono _ _ _
   | exact pledgeref1_Less.mono _ _ _
   | exact pledgeref1_Worth.mono _ _ _
   | exact LeO.none _
   | refine LeO.ite ?_ ?_
   | refine LeO.bind ?_ (fun _ => ?_)
  ·
   intro y0 y1 y2 y3 y4 y5 y6 y7 y8 y9 y10
   unfold pledgeref10_Value.j2
   repeat' first
   | (with_reducible exact ih0 _ _ _ _ _ _ _ _ _ _ _ _ _ _ _)
   | (with_reducible exact ih1 _ _ _ _ _ _ _ _ _ _ _ _ _ _ _)
   | (with_reducible exact ih2 _ _ _ _ _ _ _ _ _ _ _)
   | (with_reducible exact pledgeref1_Base.mono _ _ _)
   | (with_reducible exact pledgeref1_Less.mono _ _ _)
   | (with_reducible exact pledgeref1_Worth.mono _ _ _)
   | (with_reducible exact LeO.refl _)
   | (with_reducible exact LeO.none _)
   | (with_reducible refine LeO.ite ?_ ?_)
   | (with_reducible refine LeO.bind ?_ (fun _ => ?_))
   | exact ih0 _ _ _ _ _ _ _ _ _ _ _ _ _ _ _
   | exact ih1 _ _ _ _ _ _ _ _ _ _ _ _ _ _ _
   | exact ih2 _ _ _ _ _ _ _ _ _ _ _
   | exact pledgeref1_Base.mono _ _ _
   | exact pledgeref1_Less.mono _ _ _
   | exact pledgeref1_Worth.mono _ _ _
   | exact LeO.none _
   | refine LeO.ite ?_ ?_
   | refine LeO.bind ?_ (fun _ => ?_)
theorem pledgeref10_Value.mono : ∀ a0 a1 a2 a3 a4 a5 a6 a7 a8 a9 a10 a11 k, LeO (pledgeref10_Value.f k a0 a1 a2 a3 a4 a5 a6 a7 a8 a9 a10 a11) (pledgeref10_Value.f (k + 1) a0 a1 a2 a3 a4 a5 a6 a7 a8 a9 a10 a11) := by
 intro a0 a1 a2 a3 a4 a5 a6 a7 a8 a9 a10 a11 k
 obtain ⟨ih0, ih1, ih2⟩ := pledgeref10_Value.mono_l k
 unfold pledgeref10_Value.f
 repeat' first
   | (with_reducible exact ih0 _ _ _ _ _ _ _ _ _ _ _ _ _ _ _)
   | (with_reducible exact ih1 _ _ _ _ _ _ _ _ _ _ _ _ _ _ _)
   | (with_reducible exact ih2 _ _ _ _ _ _ _ _ _ _ _)
   | (with_reducible exact pledgeref1_Base.mono _ _ _)
   | (with_reducible exact pledgeref1_Less.mono _ _ _)
   | (with_reducible exact pledgeref1_Worth.mono _ _ _)
   | (with_reducible exact LeO.refl _)
   | (with_reducible exact LeO.none _)
   | (with_reducible refine LeO.ite ?_ ?_)
   | (with_reducible refine LeO.bind ?_ (fun _ => ?_))
   | exact ih0 _ _ _ _ _ _ _ _ _ _ _ _ _ _ _
   | exact ih1 _ _ _ _ _ _ _ _ _ _ _ _ _ _ _
   | exact ih2 _ _ _ _ _ _ _ _ _ _ _
   | exact pledgeref1_Base.mono _ _ _
   | exact pledgeref1_Less.mono _ _ _
   | exact pledgeref1_Worth.mono _ _ _
   | exact LeO.none _
   | refine LeO.ite ?_ ?_
   | refine LeO.bind ?_ (fun _ => ?_)
theorem z4d53_q1 {α : Type} {l : List α} {i : Nat} {a : α} : l.toArray.setIfInBounds i a = (l.set i a).toArray := List.setIfInBounds_toArray ..
theorem z4d53_q2 {α : Type} {x : α} {l : List α} {a : α} : (x :: l).set 0 a = a :: l := rfl
theorem z4d53_q3 {α : Type} {x : α} {l : List α} {n : Nat} {a : α} : (x :: l).set n.succ a = x :: l.set n a := rfl
theorem z4d53_u {P : Program} {ops : Array Oper} {Q : Exit → Act → World → Prop} {md : Region.Mode} {S : World → Prop} {ds : List Nat} {T : Bool × List (List Nat × List Nat)} (i N : Nat) (l' : Array Bool) (hT : Aside0 (rtab md ops = T)) {oi : Oper} {v : Value} {fuel : Nat} {l : Array Bool} {a : Act} {w : World} (hi : ops[i]? = some oi) (hN : oi.dst = some N) (hc : anyT T l.toList l'.toList i = true)
  (hQ : ∀ c a w, Q (.panic c) (a.put oi.dst v) w → Q (.panic c) a w) (hy : Yields P ops oi v a) {a' : Act} (ha : a.put (some N) v = a')
  (h : wpAnyLast P md ops Q S ds fuel l' a' w) : wpAnyLast P md ops Q S ds (fuel + 1) l a w := pure_ l' hi hN (any_of hT.out hc) hQ hy ha h
set_option maxHeartbeats 8000000 in
set_option maxRecDepth 100000 in
theorem pledgeref10_Value.calls [Inhabited (Int → Addr)] (k : Nat) (a0_0 : Int) (a0_1 : Int) (a0_2 : Int) (a0_3 : Int) (a0_4 : Int) (a1 : Int) (a2_0 : Int) (a2_1 : Int) (a2_2 : Bool) (a2_3 : Int) (a2_4 : Int) (a2_5 : Int) (r1 : Int) (r2 : Int) (r3 : Int) (r4 : Int) (w : World) (h : pledgeref10_Value.f k a0_0 a0_1 a0_2 a0_3 a0_4 a1 a2_0 a2_1 a2_2 a2_3 a2_4 a2_5 = some (r1, r2, r3, r4)) :
  Calls Tryd.prog 9 #[.agg #[.int .i64 a0_0, .int .i64 a0_1, .int .i64 a0_2, .int .i64 a0_3, .int .i64 a0_4], .int .i64 a1, .agg #[.int .i64 a2_0, .int .i64 a2_1, .bool a2_2, .int .i64 a2_3, .int .i64 a2_4, .int .i64 a2_5]] w fun e w' => e = .returned (.tuple #[.agg #[.int .i64 r1, .int .i64 r2, .int .i64 r3], .int .i64 r4]) ∧ Below w.heap.size w w' := by
 have hu23 := Tryd.underlying23
 have hu36 := Tryd.underlying36
 have hu33 := Tryd.underlying33
 have HB := Aside0.mk (Below.refl w.heap.size w)
 have H : (if a0_2 = 1 then (if a1 < 0 then (some (0, 0, 0, 103)) else (if a1 > 1000000000000 then (some (0, 0, 0, 103)) else (pledgeref10_Value.j0 k 0 a0_0 a0_1 a0_2 a0_3 a0_4 a2_0 a2_1 a2_2 a2_3 a2_4 a2_5 a1 0 0))) else ((pledgeref1_Worth.f k a1 a2_3).bind fun bt196 => (pledgeref10_Value.j0 k bt196.2 a0_0 a0_1 a0_2 a0_3 a0_4 a2_0 a2_1 a2_2 a2_3 a2_4 a2_5 bt196.1 0 0))) = some (r1, r2, r3, r4) := h
 clear h
 have HC4 := Aside0.mk H
 clear H
 go_enter Tryd.func9, Tryd.ntmps9
 go_upto_if 13 with (first | ((with_reducible refine gate_dst (N := 3) rfl ?_); refine box_event ?hg (N := 3) ?hd (cs := #[.int .i64 a0_0, .int .i64 a0_1, .int .i64 a0_2, .int .i64 a0_3, .int .i64 a0_4]) (t := 23) ?hr ?_; (case hd => rfl); (case hg => rfl); (case hr => first | (go_simp; done) | (go_simp; rfl)); intro gb192 hg w5 hbox hb; have n0_ := Aside0.mk (below_step (by repeat (first | (with_reducible first | exact HB.out | apply below_alloc | apply pw_below_drewN | apply below_drew1) | exact HB.out)) hb); have n1_ := Aside0.mk (hbox); have n2_ := Aside0.mk ((by rw [hg]; exact (below_size (by repeat (first | (with_reducible first | exact HB.out | apply below_alloc | apply pw_below_drewN | apply below_drew1) | exact HB.out))) : w.heap.size ≤ gb192)); have n3_ := Aside0.mk ((by rw [hg]; exact (below_size (by repeat (first | (with_reducible first | exact HB.out | apply below_alloc | apply pw_below_drewN | apply below_drew1) | exact HB.out))) : w.heap.size ≤ gb192)); clear HB; have HB := n0_; have BK192 := n1_; have GW192 := n2_; have GE192 := n3_; clear n0_ n1_ n2_ n3_; clear hb hbox hg) | ((with_reducible refine gate_dst (N := 5) rfl ?_); refine box_event ?hg (N := 5) ?hd (cs := #[.int .i64 a2_0, .int .i64 a2_1, .bool a2_2, .int .i64 a2_3, .int .i64 a2_4, .int .i64 a2_5]) (t := 36) ?hr ?_; (case hd => rfl); (case hg => rfl); (case hr => first | (go_simp; done) | (go_simp; rfl)); intro gb193 hg w6 hbox hb; have n0_ := Aside0.mk (blk_below (g := gb192) (o := .cells #[.int .i64 a0_0, .int .i64 a0_1, .int .i64 a0_2, .int .i64 a0_3, .int .i64 a0_4] 23 (0, 0)) (by (with_reducible repeat (first | refine blk_drewN ?_ _ | refine blk_drew ?_ | refine blk_alloc ?_ _)); exact BK192.out) hb); have n1_ := Aside0.mk (below_step (by repeat (first | (with_reducible first | exact HB.out | apply below_alloc | apply pw_below_drewN | apply below_drew1 | refine below_set ?_ GE192.out) | exact HB.out)) hb); have n2_ := Aside0.mk (hbox); have n3_ := Aside0.mk ((by rw [hg]; exact (below_size (by repeat (first | (with_reducible first | exact HB.out | apply below_alloc | apply pw_below_drewN | apply below_drew1 | refine below_set ?_ GE192.out) | exact HB.out))) : w.heap.size ≤ gb193)); have n4_ := Aside0.mk ((by rw [hg]; exact (below_size (by repeat (first | (with_reducible first | exact HB.out | apply below_alloc | apply pw_below_drewN | apply below_drew1 | refine below_set ?_ GE192.out) | exact HB.out))) : w.heap.size ≤ gb193)); have n5_ := Aside0.mk ((by rw [hg]; exact Nat.ne_of_lt (blk_lt (g := gb192) (o := .cells #[.int .i64 a0_0, .int .i64 a0_1, .int .i64 a0_2, .int .i64 a0_3, .int .i64 a0_4] 23 (0, 0)) (by (with_reducible repeat (first | refine blk_drewN ?_ _ | refine blk_drew ?_ | refine blk_alloc ?_ _)); exact BK192.out)) : gb192 ≠ gb193)); have n6_ := Aside0.mk ((by rw [hg]; exact Nat.ne_of_gt (blk_lt (g := gb192) (o := .cells #[.int .i64 a0_0, .int .i64 a0_1, .int .i64 a0_2, .int .i64 a0_3, .int .i64 a0_4] 23 (0, 0)) (by (with_reducible repeat (first | refine blk_drewN ?_ _ | refine blk_drew ?_ | refine blk_alloc ?_ _)); exact BK192.out)) : gb193 ≠ gb192)); clear BK192; clear HB; have BK192 := n0_; have HB := n1_; have BK193 := n2_; have GW193 := n3_; have GE193 := n4_; have NB192_193 := n5_; have NB193_192 := n6_; clear n0_ n1_ n2_ n3_ n4_ n5_ n6_; clear hb hbox hg) | ((with_reducible refine gate_dst (N := 6) rfl ?_); refine box_event ?hg (N := 6) ?hd (cs := #[.int .i64 0, .int .i64 0, .int .i64 0]) (t := 33) ?hr ?_; (case hd => rfl); (case hg => rfl); (case hr => first | (go_simp; done) | (go_simp; rfl)); intro gb194 hg w7 hbox hb; have n0_ := Aside0.mk (blk_below (g := gb192) (o := .cells #[.int .i64 a0_0, .int .i64 a0_1, .int .i64 a0_2, .int .i64 a0_3, .int .i64 a0_4] 23 (0, 0)) (by (with_reducible repeat (first | refine blk_drewN ?_ _ | refine blk_drew ?_ | refine blk_alloc ?_ _)); exact BK192.out) hb); have n1_ := Aside0.mk (blk_below (g := gb193) (o := .cells #[.int .i64 a2_0, .int .i64 a2_1, .bool a2_2, .int .i64 a2_3, .int .i64 a2_4, .int .i64 a2_5] 36 (0, 0)) (by (with_reducible repeat (first | refine blk_drewN ?_ _ | refine blk_drew ?_ | refine blk_alloc ?_ _)); exact BK193.out) hb); have n2_ := Aside0.mk (below_step (by repeat (first | (with_reducible first | exact HB.out | apply below_alloc | apply pw_below_drewN | apply below_drew1 | refine below_set ?_ GE192.out | refine below_set ?_ GE193.out) | exact HB.out)) hb); have n3_ := Aside0.mk (hbox); have n4_ := Aside0.mk ((by rw [hg]; exact (below_size (by repeat (first | (with_reducible first | exact HB.out | apply below_alloc | apply pw_below_drewN | apply below_drew1 | refine below_set ?_ GE192.out | refine below_set ?_ GE193.out) | exact HB.out))) : w.heap.size ≤ gb194)); have n5_ := Aside0.mk ((by rw [hg]; exact (below_size (by repeat (first | (with_reducible first | exact HB.out | apply below_alloc | apply pw_below_drewN | apply below_drew1 | refine below_set ?_ GE192.out | refine below_set ?_ GE193.out) | exact HB.out))) : w.heap.size ≤ gb194)); have n6_ := Aside0.mk ((by rw [hg]; exact Nat.ne_of_lt (blk_lt (g := gb192) (o := .cells #[.int .i64 a0_0, .int .i64 a0_1, .int .i64 a0_2, .int .i64 a0_3, .int .i64 a0_4] 23 (0, 0)) (by (with_reducible repeat (first | refine blk_drewN ?_ _ | refine blk_drew ?_ | refine blk_alloc ?_ _)); exact BK192.out)) : gb192 ≠ gb194)); have n7_ := Aside0.mk ((by rw [hg]; exact Nat.ne_of_gt (blk_lt (g := gb192) (o := .cells #[.int .i64 a0_0, .int .i64 a0_1, .int .i64 a0_2, .int .i64 a0_3, .int .i64 a0_4] 23 (0, 0)) (by (with_reducible repeat (first | refine blk_drewN ?_ _ | refine blk_drew ?_ | refine blk_alloc ?_ _)); exact BK192.out)) : gb194 ≠ gb192)); have n8_ := Aside0.mk ((by rw [hg]; exact Nat.ne_of_lt (blk_lt (g := gb193) (o := .cells #[.int .i64 a2_0, .int .i64 a2_1, .bool a2_2, .int .i64 a2_3, .int .i64 a2_4, .int .i64 a2_5] 36 (0, 0)) (by (with_reducible repeat (first | refine blk_drewN ?_ _ | refine blk_drew ?_ | refine blk_alloc ?_ _)); exact BK193.out)) : gb193 ≠ gb194)); have n9_ := Aside0.mk ((by rw [hg]; exact Nat.ne_of_gt (blk_lt (g := gb193) (o := .cells #[.int .i64 a2_0, .int .i64 a2_1, .bool a2_2, .int .i64 a2_3, .int .i64 a2_4, .int .i64 a2_5] 36 (0, 0)) (by (with_reducible repeat (first | refine blk_drewN ?_ _ | refine blk_drew ?_ | refine blk_alloc ?_ _)); exact BK193.out)) : gb194 ≠ gb193)); clear BK192; clear BK193; clear HB; have BK192 := n0_; have BK193 := n1_; have HB := n2_; have BK194 := n3_; have GW194 := n4_; have GE194 := n5_; have NB192_194 := n6_; have NB194_192 := n7_; have NB193_194 := n8_; have NB194_193 := n9_; clear n0_ n1_ n2_ n3_ n4_ n5_ n6_ n7_ n8_ n9_; clear hb hbox hg) | ((with_reducible refine gate_dst (N := 8) rfl ?_); refine box_event ?hg (N := 8) ?hd (cs := #[.int .i64 0, .int .i64 0, .int .i64 0]) (t := 33) ?hr ?_; (case hd => rfl); (case hg => rfl); (case hr => first | (go_simp; done) | (go_simp; rfl)); intro gb195 hg w8 hbox hb; have n0_ := Aside0.mk (blk_below (g := gb192) (o := .cells #[.int .i64 a0_0, .int .i64 a0_1, .int .i64 a0_2, .int .i64 a0_3, .int .i64 a0_4] 23 (0, 0)) (by (with_reducible repeat (first | refine blk_drewN ?_ _ | refine blk_drew ?_ | refine blk_alloc ?_ _)); exact BK192.out) hb); have n1_ := Aside0.mk (blk_below (g := gb193) (o := .cells #[.int .i64 a2_0, .int .i64 a2_1, .bool a2_2, .int .i64 a2_3, .int .i64 a2_4, .int .i64 a2_5] 36 (0, 0)) (by (with_reducible repeat (first | refine blk_drewN ?_ _ | refine blk_drew ?_ | refine blk_alloc ?_ _)); exact BK193.out) hb); have n2_ := Aside0.mk (blk_below (g := gb194) (o := .cells #[.int .i64 0, .int .i64 0, .int .i64 0] 33 (0, 0)) (by (with_reducible repeat (first | refine blk_drewN ?_ _ | refine blk_drew ?_ | refine blk_alloc ?_ _)); exact BK194.out) hb); have n3_ := Aside0.mk (below_step (by repeat (first | (with_reducible first | exact HB.out | apply below_alloc | apply pw_below_drewN | apply below_drew1 | refine below_set ?_ GE192.out | refine below_set ?_ GE193.out | refine below_set ?_ GE194.out) | exact HB.out)) hb); have n4_ := Aside0.mk (hbox); have n5_ := Aside0.mk ((by rw [hg]; exact (below_size (by repeat (first | (with_reducible first | exact HB.out | apply below_alloc | apply pw_below_drewN | apply below_drew1 | refine below_set ?_ GE192.out | refine below_set ?_ GE193.out | refine below_set ?_ GE194.out) | exact HB.out))) : w.heap.size ≤ gb195)); have n6_ := Aside0.mk ((by rw [hg]; exact (below_size (by repeat (first | (with_reducible first | exact HB.out | apply below_alloc | apply pw_below_drewN | apply below_drew1 | refine below_set ?_ GE192.out | refine below_set ?_ GE193.out | refine below_set ?_ GE194.out) | exact HB.out))) : w.heap.size ≤ gb195)); have n7_ := Aside0.mk ((by rw [hg]; exact Nat.ne_of_lt (blk_lt (g := gb192) (o := .cells #[.int .i64 a0_0, .int .i64 a0_1, .int .i64 a0_2, .int .i64 a0_3, .int .i64 a0_4] 23 (0, 0)) (by (with_reducible repeat (first | refine blk_drewN ?_ _ | refine blk_drew ?_ | refine blk_alloc ?_ _)); exact BK192.out)) : gb192 ≠ gb195)); have n8_ := Aside0.mk ((by rw [hg]; exact Nat.ne_of_gt (blk_lt (g := gb192) (o := .cells #[.int .i64 a0_0, .int .i64 a0_1, .int .i64 a0_2, .int .i64 a0_3, .int .i64 a0_4] 23 (0, 0)) (by (with_reducible repeat (first | refine blk_drewN ?_ _ | refine blk_drew ?_ | refine blk_alloc ?_ _)); exact BK192.out)) : gb195 ≠ gb192)); have n9_ := Aside0.mk ((by rw [hg]; exact Nat.ne_of_lt (blk_lt (g := gb193) (o := .cells #[.int .i64 a2_0, .int .i64 a2_1, .bool a2_2, .int .i64 a2_3, .int .i64 a2_4, .int .i64 a2_5] 36 (0, 0)) (by (with_reducible repeat (first | refine blk_drewN ?_ _ | refine blk_drew ?_ | refine blk_alloc ?_ _)); exact BK193.out)) : gb193 ≠ gb195)); have n10_ := Aside0.mk ((by rw [hg]; exact Nat.ne_of_gt (blk_lt (g := gb193) (o := .cells #[.int .i64 a2_0, .int .i64 a2_1, .bool a2_2, .int .i64 a2_3, .int .i64 a2_4, .int .i64 a2_5] 36 (0, 0)) (by (with_reducible repeat (first | refine blk_drewN ?_ _ | refine blk_drew ?_ | refine blk_alloc ?_ _)); exact BK193.out)) : gb195 ≠ gb193)); have n11_ := Aside0.mk ((by rw [hg]; exact Nat.ne_of_lt (blk_lt (g := gb194) (o := .cells #[.int .i64 0, .int .i64 0, .int .i64 0] 33 (0, 0)) (by (with_reducible repeat (first | refine blk_drewN ?_ _ | refine blk_drew ?_ | refine blk_alloc ?_ _)); exact BK194.out)) : gb194 ≠ gb195)); have n12_ := Aside0.mk ((by rw [hg]; exact Nat.ne_of_gt (blk_lt (g := gb194) (o := .cells #[.int .i64 0, .int .i64 0, .int .i64 0] 33 (0, 0)) (by (with_reducible repeat (first | refine blk_drewN ?_ _ | refine blk_drew ?_ | refine blk_alloc ?_ _)); exact BK194.out)) : gb195 ≠ gb194)); clear BK192; clear BK193; clear BK194; clear HB; have BK192 := n0_; have BK193 := n1_; have BK194 := n2_; have HB := n3_; have BK195 := n4_; have GW195 := n5_; have GE195 := n6_; have NB192_195 := n7_; have NB195_192 := n8_; have NB193_195 := n9_; have NB195_193 := n10_; have NB194_195 := n11_; have NB195_194 := n12_; clear n0_ n1_ n2_ n3_ n4_ n5_ n6_ n7_ n8_ n9_ n10_ n11_ n12_; clear hb hbox hg; have hnb9 := NB195_192.out; have hnc9 := NB192_195.out; have hnb10 := NB195_193.out; have hnc10 := NB193_195.out; have hnb11 := NB195_194.out; have hnc11 := NB194_195.out; have hcz12_0 : w8.cell? ⟨gb195, 0, none⟩ = some (.int .i64 0) := (blk_cell BK195.out 0).trans rfl; have hcz12_1 : w8.cell? ⟨gb195, 1, none⟩ = some (.int .i64 0) := (blk_cell BK195.out 1).trans rfl; have hcz12_2 : w8.cell? ⟨gb195, 2, none⟩ = some (.int .i64 0) := (blk_cell BK195.out 2).trans rfl; have hfz12_0 := blk_frozen BK195.out 0; have hfz12_1 := blk_frozen BK195.out 1; have hfz12_2 := blk_frozen BK195.out 2; have hnb13 := NB192_193.out; have hnc13 := NB193_192.out; have hnb14 := NB192_194.out; have hnc14 := NB194_192.out; have hcz15_0 : w8.cell? ⟨gb192, 0, none⟩ = some (.int .i64 a0_0) := (blk_cell BK192.out 0).trans rfl; have hcz15_1 : w8.cell? ⟨gb192, 1, none⟩ = some (.int .i64 a0_1) := (blk_cell BK192.out 1).trans rfl; have hcz15_2 : w8.cell? ⟨gb192, 2, none⟩ = some (.int .i64 a0_2) := (blk_cell BK192.out 2).trans rfl; have hcz15_3 : w8.cell? ⟨gb192, 3, none⟩ = some (.int .i64 a0_3) := (blk_cell BK192.out 3).trans rfl; have hcz15_4 : w8.cell? ⟨gb192, 4, none⟩ = some (.int .i64 a0_4) := (blk_cell BK192.out 4).trans rfl; have hfz15_0 := blk_frozen BK192.out 0; have hfz15_1 := blk_frozen BK192.out 1; have hfz15_2 := blk_frozen BK192.out 2; have hfz15_3 := blk_frozen BK192.out 3; have hfz15_4 := blk_frozen BK192.out 4))
 (try simp only [Act.put, z4d53_q1, z4d53_q2, z4d53_q3])
 go_cut [9] (fun v9 wc => ∃ (kq : Nat) (x9_3 : Int) (x195000_3 : Int) (x195001_3 : Int) (x195002_3 : Int) (x196000_3 : Int), v9 = .int .i64 x9_3 ∧ Aside0 (pledgeref10_Value.j0 kq x9_3 a0_0 a0_1 a0_2 a0_3 a0_4 a2_0 a2_1 a2_2 a2_3 a2_4 a2_5 x196000_3 0 0 = some (r1, r2, r3, r4)) ∧ Aside0 (kq ≤ k) ∧ Aside0 (wc.heap[gb192]? = some (.cells #[.int .i64 a0_0, .int .i64 a0_1, .int .i64 a0_2, .int .i64 a0_3, .int .i64 a0_4] 23 (0, 0))) ∧ Aside0 (wc.heap[gb193]? = some (.cells #[.int .i64 a2_0, .int .i64 a2_1, .bool a2_2, .int .i64 a2_3, .int .i64 a2_4, .int .i64 a2_5] 36 (0, 0))) ∧ Aside0 (wc.heap[gb194]? = some (.cells #[.int .i64 x195000_3, .int .i64 x195001_3, .int .i64 x195002_3] 33 (0, 0))) ∧ Aside0 (wc.heap[gb195]? = some (.cells #[.int .i64 x196000_3, .int .i64 0, .int .i64 0] 33 (0, 0))) ∧ Aside0 (Below w.heap.size w wc))
 case first =>
  have H := HC4.out
  clear HC4
  by_cases c16 : a0_2 = 1
  ·
   rw [if_pos c16] at H
   have c16b0 : (a0_2 == 1) = true := beq_iff_eq.mpr c16
   have c16b1 : (a0_2 != 1) = false := bne_eq_false_iff_eq.mpr c16
   clear c16
   (first | rw [c16b0] | (simp only [i64_w, i32_w]; rw [c16b0]) | skip)
   by_cases c17 : a1 < 0
   ·
    rw [if_pos c17] at H
    have c17b0 : decide (a1 < 0) = true := decide_eq_true c17
    clear c17
    simp only [Option.some.injEq, Prod.mk.injEq] at H
    obtain ⟨rfl, rfl, rfl, rfl⟩ := H
    have hnb18 := NB195_192.out
    have hnc18 := NB192_195.out
    have hnb19 := NB195_193.out
    have hnc19 := NB193_195.out
    have hnb20 := NB195_194.out
    have hnc20 := NB194_195.out
    have hcz21_0 : w8.cell? ⟨gb195, 0, none⟩ = some (.int .i64 0) := (blk_cell BK195.out 0).trans rfl
    have hcz21_1 : w8.cell? ⟨gb195, 1, none⟩ = some (.int .i64 0) := (blk_cell BK195.out 1).trans rfl
    have hcz21_2 : w8.cell? ⟨gb195, 2, none⟩ = some (.int .i64 0) := (blk_cell BK195.out 2).trans rfl
    have hfz21_0 := blk_frozen BK195.out 0
    have hfz21_1 := blk_frozen BK195.out 1
    have hfz21_2 := blk_frozen BK195.out 2
    have hnb22 := NB194_192.out
    have hnc22 := NB192_194.out
    have hnb23 := NB194_193.out
    have hnc23 := NB193_194.out
    have hcz24_0 : w8.cell? ⟨gb194, 0, none⟩ = some (.int .i64 0) := (blk_cell BK194.out 0).trans rfl
    have hcz24_1 : w8.cell? ⟨gb194, 1, none⟩ = some (.int .i64 0) := (blk_cell BK194.out 1).trans rfl
    have hcz24_2 : w8.cell? ⟨gb194, 2, none⟩ = some (.int .i64 0) := (blk_cell BK194.out 2).trans rfl
    have hfz24_0 := blk_frozen BK194.out 0
    have hfz24_1 := blk_frozen BK194.out 1
    have hfz24_2 := blk_frozen BK194.out 2
    go_wp2
    refine bodyPost_ret (results_ct rfl _ _ gb194 33 #[.int .i64 0, .int .i64 0, .int .i64 0] (0, 0) _ rfl (by (with_reducible repeat (first | refine blk_drewN ?_ _ | refine blk_drew ?_ | refine blk_alloc ?_ _)); refine blk_put (cs := #[.int .i64 0, .int .i64 0, .int .i64 0]) ?_ 2 _ rfl; (with_reducible repeat (first | refine blk_drewN ?_ _ | refine blk_drew ?_ | refine blk_alloc ?_ _)); refine blk_put (cs := #[.int .i64 0, .int .i64 0, .int .i64 0]) ?_ 1 _ rfl; (with_reducible repeat (first | refine blk_drewN ?_ _ | refine blk_drew ?_ | refine blk_alloc ?_ _)); refine blk_put (cs := #[.int .i64 0, .int .i64 0, .int .i64 0]) ?_ 0 _ rfl; (with_reducible repeat (first | refine blk_drewN ?_ _ | refine blk_drew ?_ | refine blk_alloc ?_ _ | refine blk_far ?_ NB194_195.out _)); exact BK194.out) Tryd.underlying33 rfl (by kernel_rfl)) rfl ?_
    exact ⟨by first | rfl | (simp [errW_none, errW_some] <;> rfl) | (exfalso; simp_all; done) | (simp [*, errW_none, errW_some] <;> rfl), by repeat (first | (with_reducible first | exact HB.out | apply below_alloc | apply pw_below_drewN | apply below_drew1 | refine below_set ?_ GE192.out | refine below_set ?_ GE193.out | refine below_set ?_ GE194.out | refine below_set ?_ GE195.out) | exact HB.out)⟩
   ·
    rw [if_neg c17] at H
    have c17b0 : decide (a1 < 0) = false := decide_eq_false c17
    clear c17
    by_cases c25 : a1 > 1000000000000
    ·
     rw [if_pos c25] at H
     have c25b0 : decide (1000000000000 < a1) = true := decide_eq_true c25
     clear c25
     simp only [Option.some.injEq, Prod.mk.injEq] at H
     obtain ⟨rfl, rfl, rfl, rfl⟩ := H
     have hnb26 := NB195_192.out
     have hnc26 := NB192_195.out
     have hnb27 := NB195_193.out
     have hnc27 := NB193_195.out
     have hnb28 := NB195_194.out
     have hnc28 := NB194_195.out
     have hcz29_0 : w8.cell? ⟨gb195, 0, none⟩ = some (.int .i64 0) := (blk_cell BK195.out 0).trans rfl
     have hcz29_1 : w8.cell? ⟨gb195, 1, none⟩ = some (.int .i64 0) := (blk_cell BK195.out 1).trans rfl
     have hcz29_2 : w8.cell? ⟨gb195, 2, none⟩ = some (.int .i64 0) := (blk_cell BK195.out 2).trans rfl
     have hfz29_0 := blk_frozen BK195.out 0
     have hfz29_1 := blk_frozen BK195.out 1
     have hfz29_2 := blk_frozen BK195.out 2
     have hnb30 := NB194_192.out
     have hnc30 := NB192_194.out
     have hnb31 := NB194_193.out
     have hnc31 := NB193_194.out
     have hcz32_0 : w8.cell? ⟨gb194, 0, none⟩ = some (.int .i64 0) := (blk_cell BK194.out 0).trans rfl
     have hcz32_1 : w8.cell? ⟨gb194, 1, none⟩ = some (.int .i64 0) := (blk_cell BK194.out 1).trans rfl
     have hcz32_2 : w8.cell? ⟨gb194, 2, none⟩ = some (.int .i64 0) := (blk_cell BK194.out 2).trans rfl
     have hfz32_0 := blk_frozen BK194.out 0
     have hfz32_1 := blk_frozen BK194.out 1
     have hfz32_2 := blk_frozen BK194.out 2
     go_wp2
     refine bodyPost_ret (results_ct rfl _ _ gb194 33 #[.int .i64 0, .int .i64 0, .int .i64 0] (0, 0) _ rfl (by (with_reducible repeat (first | refine blk_drewN ?_ _ | refine blk_drew ?_ | refine blk_alloc ?_ _)); refine blk_put (cs := #[.int .i64 0, .int .i64 0, .int .i64 0]) ?_ 2 _ rfl; (with_reducible repeat (first | refine blk_drewN ?_ _ | refine blk_drew ?_ | refine blk_alloc ?_ _)); refine blk_put (cs := #[.int .i64 0, .int .i64 0, .int .i64 0]) ?_ 1 _ rfl; (with_reducible repeat (first | refine blk_drewN ?_ _ | refine blk_drew ?_ | refine blk_alloc ?_ _)); refine blk_put (cs := #[.int .i64 0, .int .i64 0, .int .i64 0]) ?_ 0 _ rfl; (with_reducible repeat (first | refine blk_drewN ?_ _ | refine blk_drew ?_ | refine blk_alloc ?_ _ | refine blk_far ?_ NB194_195.out _)); exact BK194.out) Tryd.underlying33 rfl (by kernel_rfl)) rfl ?_
     exact ⟨by first | rfl | (simp [errW_none, errW_some] <;> rfl) | (exfalso; simp_all; done) | (simp [*, errW_none, errW_some] <;> rfl), by repeat (first | (with_reducible first | exact HB.out | apply below_alloc | apply pw_below_drewN | apply below_drew1 | refine below_set ?_ GE192.out | refine below_set ?_ GE193.out | refine below_set ?_ GE194.out | refine below_set ?_ GE195.out) | exact HB.out)⟩
    ·
     rw [if_neg c25] at H
     have c25b0 : decide (1000000000000 < a1) = false := decide_eq_false c25
     clear c25
     have H' := Aside0.mk H
     clear H
     have hnb33 := NB195_192.out
     have hnc33 := NB192_195.out
     have hnb34 := NB195_193.out
     have hnc34 := NB193_195.out
     have hnb35 := NB195_194.out
     have hnc35 := NB194_195.out
     have hcz36_0 : w8.cell? ⟨gb195, 0, none⟩ = some (.int .i64 0) := (blk_cell BK195.out 0).trans rfl
     have hcz36_1 : w8.cell? ⟨gb195, 1, none⟩ = some (.int .i64 0) := (blk_cell BK195.out 1).trans rfl
     have hcz36_2 : w8.cell? ⟨gb195, 2, none⟩ = some (.int .i64 0) := (blk_cell BK195.out 2).trans rfl
     have hfz36_0 := blk_frozen BK195.out 0
     have hfz36_1 := blk_frozen BK195.out 1
     have hfz36_2 := blk_frozen BK195.out 2
     go_wp2
     go_meet
     case rel => exact ⟨_, (0), (0), (0), (0), (a1), (by first | rfl | (simp; done) | (simp [*]; done)), H', ⟨by first | omega | exact Nat.le_refl _⟩, ⟨by (with_reducible repeat (first | refine blk_drewN ?_ _ | refine blk_drew ?_ | refine blk_alloc ?_ _ | refine blk_far ?_ NB192_195.out _)); exact BK192.out⟩, ⟨by (with_reducible repeat (first | refine blk_drewN ?_ _ | refine blk_drew ?_ | refine blk_alloc ?_ _ | refine blk_far ?_ NB193_195.out _)); exact BK193.out⟩, ⟨by (with_reducible repeat (first | refine blk_drewN ?_ _ | refine blk_drew ?_ | refine blk_alloc ?_ _ | refine blk_far ?_ NB194_195.out _)); exact BK194.out⟩, ⟨by (with_reducible repeat (first | refine blk_drewN ?_ _ | refine blk_drew ?_ | refine blk_alloc ?_ _)); refine blk_put (cs := #[.int .i64 0, .int .i64 0, .int .i64 0]) ?_ 0 _ rfl; (with_reducible repeat (first | refine blk_drewN ?_ _ | refine blk_drew ?_ | refine blk_alloc ?_ _)); refine blk_put (cs := #[.int .i64 0, .int .i64 0, .int .i64 0]) ?_ 2 _ rfl; (with_reducible repeat (first | refine blk_drewN ?_ _ | refine blk_drew ?_ | refine blk_alloc ?_ _)); refine blk_put (cs := #[.int .i64 0, .int .i64 0, .int .i64 0]) ?_ 1 _ rfl; (with_reducible repeat (first | refine blk_drewN ?_ _ | refine blk_drew ?_ | refine blk_alloc ?_ _)); refine blk_put (cs := #[.int .i64 0, .int .i64 0, .int .i64 0]) ?_ 0 _ rfl; (with_reducible repeat (first | refine blk_drewN ?_ _ | refine blk_drew ?_ | refine blk_alloc ?_ _)); exact BK195.out⟩, ⟨by repeat (first | (with_reducible first | exact HB.out | apply below_alloc | apply pw_below_drewN | apply below_drew1 | refine below_set ?_ GE192.out | refine below_set ?_ GE193.out | refine below_set ?_ GE194.out | refine below_set ?_ GE195.out) | exact HB.out)⟩⟩
  ·
   rw [if_neg c16] at H
   have c16b0 : (a0_2 == 1) = false := beq_eq_false_iff_ne.mpr c16
   have c16b1 : (a0_2 != 1) = true := bne_iff_ne.mpr c16
   (first | rw [c16b0] | (simp only [i64_w, i32_w]; rw [c16b0]) | skip)
   replace H := Option.bind_eq_some_iff.mp H
   obtain ⟨⟨t196, t197⟩, A370, H⟩ := H
   replace H : (pledgeref10_Value.j0 k t197 a0_0 a0_1 a0_2 a0_3 a0_4 a2_0 a2_1 a2_2 a2_3 a2_4 a2_5 t196 0 0) = some (r1, r2, r3, r4) := H
   have A37 := Aside0.mk A370
   clear A370
   have H' := Aside0.mk H
   clear H
   have hnb38 := NB193_192.out
   have hnc38 := NB192_193.out
   have hnb39 := NB193_194.out
   have hnc39 := NB194_193.out
   have hnb40 := NB193_195.out
   have hnc40 := NB195_193.out
   have hcz41_0 : w8.cell? ⟨gb193, 0, none⟩ = some (.int .i64 a2_0) := (blk_cell BK193.out 0).trans rfl
   have hcz41_1 : w8.cell? ⟨gb193, 1, none⟩ = some (.int .i64 a2_1) := (blk_cell BK193.out 1).trans rfl
   have hcz41_2 : w8.cell? ⟨gb193, 2, none⟩ = some (.bool a2_2) := (blk_cell BK193.out 2).trans rfl
   have hcz41_3 : w8.cell? ⟨gb193, 3, none⟩ = some (.int .i64 a2_3) := (blk_cell BK193.out 3).trans rfl
   have hcz41_4 : w8.cell? ⟨gb193, 4, none⟩ = some (.int .i64 a2_4) := (blk_cell BK193.out 4).trans rfl
   have hcz41_5 : w8.cell? ⟨gb193, 5, none⟩ = some (.int .i64 a2_5) := (blk_cell BK193.out 5).trans rfl
   have hfz41_0 := blk_frozen BK193.out 0
   have hfz41_1 := blk_frozen BK193.out 1
   have hfz41_2 := blk_frozen BK193.out 2
   have hfz41_3 := blk_frozen BK193.out 3
   have hfz41_4 := blk_frozen BK193.out 4
   have hfz41_5 := blk_frozen BK193.out 5
   go_wp2_with (first | ((with_reducible refine gate_callee (f := 18) rfl ?_); refine goesL_ (some 27) rfl rfl Tryd.func18 (by kernel_rfl) rfl #[.int .i64 a1, .int .i64 a2_3] rfl (by (try simp only [List.map_toArray, List.map_cons, List.map_nil]); first | done | rfl | (simp only [List.length_drop, List.length_take]; rfl)) ?_; (with_reducible refine (pledgeref1_Worth.calls k a1 a2_3 t196 t197 _ A37.out).mono ?_); rintro e w' ⟨rfl, ⟨nd, rfl⟩⟩; refine ⟨_, rfl, ?_⟩; have hnb42 := NB195_192.out; have hnc42 := NB192_195.out; have hnb43 := NB195_194.out; have hnc43 := NB194_195.out; have hcz44_0 : w8.cell? ⟨gb195, 0, none⟩ = some (.int .i64 0) := (blk_cell BK195.out 0).trans rfl; have hcz44_1 : w8.cell? ⟨gb195, 1, none⟩ = some (.int .i64 0) := (blk_cell BK195.out 1).trans rfl; have hcz44_2 : w8.cell? ⟨gb195, 2, none⟩ = some (.int .i64 0) := (blk_cell BK195.out 2).trans rfl; have hfz44_0 := blk_frozen BK195.out 0; have hfz44_1 := blk_frozen BK195.out 1; have hfz44_2 := blk_frozen BK195.out 2))
   go_meet
   case rel => exact ⟨_, (t197), (0), (0), (0), (t196), (by first | rfl | (simp; done) | (simp [*]; done)), H', ⟨by first | omega | exact Nat.le_refl _⟩, ⟨by (with_reducible repeat (first | refine blk_drewN ?_ _ | refine blk_drew ?_ | refine blk_alloc ?_ _ | refine blk_far ?_ NB192_195.out _)); exact BK192.out⟩, ⟨by (with_reducible repeat (first | refine blk_drewN ?_ _ | refine blk_drew ?_ | refine blk_alloc ?_ _ | refine blk_far ?_ NB193_195.out _)); exact BK193.out⟩, ⟨by (with_reducible repeat (first | refine blk_drewN ?_ _ | refine blk_drew ?_ | refine blk_alloc ?_ _ | refine blk_far ?_ NB194_195.out _)); exact BK194.out⟩, ⟨by (with_reducible repeat (first | refine blk_drewN ?_ _ | refine blk_drew ?_ | refine blk_alloc ?_ _)); refine blk_put (cs := #[.int .i64 0, .int .i64 0, .int .i64 0]) ?_ 0 _ rfl; (with_reducible repeat (first | refine blk_drewN ?_ _ | refine blk_drew ?_ | refine blk_alloc ?_ _)); refine blk_put (cs := #[.int .i64 0, .int .i64 0, .int .i64 0]) ?_ 2 _ rfl; (with_reducible repeat (first | refine blk_drewN ?_ _ | refine blk_drew ?_ | refine blk_alloc ?_ _)); refine blk_put (cs := #[.int .i64 0, .int .i64 0, .int .i64 0]) ?_ 1 _ rfl; (with_reducible repeat (first | refine blk_drewN ?_ _ | refine blk_drew ?_ | refine blk_alloc ?_ _)); refine blk_put (cs := #[.int .i64 0, .int .i64 0, .int .i64 0]) ?_ 0 _ rfl; (with_reducible repeat (first | refine blk_drewN ?_ _ | refine blk_drew ?_ | refine blk_alloc ?_ _)); exact BK195.out⟩, ⟨by repeat (first | (with_reducible first | exact HB.out | apply below_alloc | apply pw_below_drewN | apply below_drew1 | refine below_set ?_ GE192.out | refine below_set ?_ GE193.out | refine below_set ?_ GE194.out | refine below_set ?_ GE195.out) | exact HB.out)⟩⟩
 case rest =>
  clear HC4
  try clear c1
  try clear c2
  try clear p2
  try clear c3
  try clear c4
  try clear c9
  try clear c10
  try clear c11
  try clear c13
  try clear c14
  try clear c16
  try clear c16b0
  try clear c16b1
  try clear c17
  try clear c17b0
  try clear c18
  try clear c19
  try clear c20
  try clear c22
  try clear c23
  try clear c25
  try clear c25b0
  try clear c26
  try clear c27
  try clear c28
  try clear c30
  try clear c31
  try clear c33
  try clear c34
  try clear c35
  try clear c38
  try clear c39
  try clear c40
  try clear c42
  try clear c43
  try clear hcz12_0
  try clear hcz12_1
  try clear hcz12_2
  try clear hcz15_0
  try clear hcz15_1
  try clear hcz15_2
  try clear hcz15_3
  try clear hcz15_4
  try clear hcz21_0
  try clear hcz21_1
  try clear hcz21_2
  try clear hcz24_0
  try clear hcz24_1
  try clear hcz24_2
  try clear hcz29_0
  try clear hcz29_1
  try clear hcz29_2
  try clear hcz32_0
  try clear hcz32_1
  try clear hcz32_2
  try clear hcz36_0
  try clear hcz36_1
  try clear hcz36_2
  try clear hcz41_0
  try clear hcz41_1
  try clear hcz41_2
  try clear hcz41_3
  try clear hcz41_4
  try clear hcz41_5
  try clear hcz44_0
  try clear hcz44_1
  try clear hcz44_2
  try clear hfz12_0
  try clear hfz12_1
  try clear hfz12_2
  try clear hfz15_0
  try clear hfz15_1
  try clear hfz15_2
  try clear hfz15_3
  try clear hfz15_4
  try clear hfz21_0
  try clear hfz21_1
  try clear hfz21_2
  try clear hfz24_0
  try clear hfz24_1
  try clear hfz24_2
  try clear hfz29_0
  try clear hfz29_1
  try clear hfz29_2
  try clear hfz32_0
  try clear hfz32_1
  try clear hfz32_2
  try clear hfz36_0
  try clear hfz36_1
  try clear hfz36_2
  try clear hfz41_0
  try clear hfz41_1
  try clear hfz41_2
  try clear hfz41_3
  try clear hfz41_4
  try clear hfz41_5
  try clear hfz44_0
  try clear hfz44_1
  try clear hfz44_2
  obtain ⟨kq, x9_3, x195000_3, x195001_3, x195002_3, x196000_3, rfl, HA, HJ3, BK192, BK193, BK194, BK195, HB⟩ := hcut
  cases kq with
  | zero => exact absurd HA.out (by simp [pledgeref10_Value.j0])
  | succ kj3 =>
   have H := HA.out
   clear HA
   simp only [pledgeref10_Value.j0] at H
   have HC45 := Aside0.mk H
   clear H
   go_upto_if 32 with (fail)
   go_cut [9] (fun v9 wc => ∃ (kq : Nat) (x9_44 : Int) (x196001_44 : Int), v9 = .int .i64 x9_44 ∧ Aside0 (pledgeref10_Value.j1 kq x9_44 a0_0 a0_1 a0_2 a0_3 a0_4 a2_0 a2_1 a2_2 a2_3 a2_4 a2_5 x196000_3 x196001_44 0 = some (r1, r2, r3, r4)) ∧ Aside0 (kq ≤ kj3) ∧ Aside0 (wc.heap[gb192]? = some (.cells #[.int .i64 a0_0, .int .i64 a0_1, .int .i64 a0_2, .int .i64 a0_3, .int .i64 a0_4] 23 (0, 0))) ∧ Aside0 (wc.heap[gb193]? = some (.cells #[.int .i64 a2_0, .int .i64 a2_1, .bool a2_2, .int .i64 a2_3, .int .i64 a2_4, .int .i64 a2_5] 36 (0, 0))) ∧ Aside0 (wc.heap[gb194]? = some (.cells #[.int .i64 x195000_3, .int .i64 x195001_3, .int .i64 x195002_3] 33 (0, 0))) ∧ Aside0 (wc.heap[gb195]? = some (.cells #[.int .i64 x196000_3, .int .i64 x196001_44, .int .i64 0] 33 (0, 0))) ∧ Aside0 (Below w.heap.size w wc))
   case first =>
    have H := HC45.out
    clear HC45
    by_cases c46 : x9_3 = 0
    ·
     rw [if_pos c46] at H
     have c46b0 : (x9_3 == 0) = true := beq_iff_eq.mpr c46
     have c46b1 : (x9_3 != 0) = false := bne_eq_false_iff_eq.mpr c46
     clear c46
     (first | rw [c46b0] | (simp only [i64_w, i32_w]; rw [c46b0]) | skip)
     replace H := Option.bind_eq_some_iff.mp H
     obtain ⟨⟨t198, t199⟩, A470, H⟩ := H
     replace H : (pledgeref10_Value.j1 kj3 t199 a0_0 a0_1 a0_2 a0_3 a0_4 a2_0 a2_1 a2_2 a2_3 a2_4 a2_5 x196000_3 t198 0) = some (r1, r2, r3, r4) := H
     have A47 := Aside0.mk A470
     clear A470
     have H' := Aside0.mk H
     clear H
     have hnb48 := NB195_192.out
     have hnc48 := NB192_195.out
     have hnb49 := NB195_193.out
     have hnc49 := NB193_195.out
     have hnb50 := NB195_194.out
     have hnc50 := NB194_195.out
     have hcz51_0 : wc.cell? ⟨gb195, 0, none⟩ = some (.int .i64 x196000_3) := (blk_cell BK195.out 0).trans rfl
     have hcz51_1 : wc.cell? ⟨gb195, 1, none⟩ = some (.int .i64 0) := (blk_cell BK195.out 1).trans rfl
     have hcz51_2 : wc.cell? ⟨gb195, 2, none⟩ = some (.int .i64 0) := (blk_cell BK195.out 2).trans rfl
     have hfz51_0 := blk_frozen BK195.out 0
     have hfz51_1 := blk_frozen BK195.out 1
     have hfz51_2 := blk_frozen BK195.out 2
     have hnb52 := NB193_192.out
     have hnc52 := NB192_193.out
     have hnb53 := NB193_194.out
     have hnc53 := NB194_193.out
     have hcz54_0 : wc.cell? ⟨gb193, 0, none⟩ = some (.int .i64 a2_0) := (blk_cell BK193.out 0).trans rfl
     have hcz54_1 : wc.cell? ⟨gb193, 1, none⟩ = some (.int .i64 a2_1) := (blk_cell BK193.out 1).trans rfl
     have hcz54_2 : wc.cell? ⟨gb193, 2, none⟩ = some (.bool a2_2) := (blk_cell BK193.out 2).trans rfl
     have hcz54_3 : wc.cell? ⟨gb193, 3, none⟩ = some (.int .i64 a2_3) := (blk_cell BK193.out 3).trans rfl
     have hcz54_4 : wc.cell? ⟨gb193, 4, none⟩ = some (.int .i64 a2_4) := (blk_cell BK193.out 4).trans rfl
     have hcz54_5 : wc.cell? ⟨gb193, 5, none⟩ = some (.int .i64 a2_5) := (blk_cell BK193.out 5).trans rfl
     have hfz54_0 := blk_frozen BK193.out 0
     have hfz54_1 := blk_frozen BK193.out 1
     have hfz54_2 := blk_frozen BK193.out 2
     have hfz54_3 := blk_frozen BK193.out 3
     have hfz54_4 := blk_frozen BK193.out 4
     have hfz54_5 := blk_frozen BK193.out 5
     go_wp2_with (first | ((with_reducible refine gate_callee (f := 19) rfl ?_); refine goesL_ (some 38) rfl rfl Tryd.func19 (by kernel_rfl) rfl #[.int .i64 x196000_3, .int .i64 a2_4] rfl (by (try simp only [List.map_toArray, List.map_cons, List.map_nil]); first | done | rfl | (simp only [List.length_drop, List.length_take]; rfl)) ?_; (with_reducible refine (pledgeref1_Base.calls kj3 x196000_3 a2_4 t198 t199 _ A47.out).mono ?_); rintro e w' ⟨rfl, ⟨nd, rfl⟩⟩; refine ⟨_, rfl, ?_⟩; (try (rw [drewN_self wc]; generalize hq_ : World.drewN wc _ = wc; have n0_ : Aside0 (wc.heap[gb192]? = some (.cells #[.int .i64 a0_0, .int .i64 a0_1, .int .i64 a0_2, .int .i64 a0_3, .int .i64 a0_4] 23 (0, 0))) := ⟨by rw [← hq_]; exact (by (with_reducible repeat (first | refine blk_drewN ?_ _ | refine blk_drew ?_ | refine blk_alloc ?_ _)); exact BK192.out)⟩; have n1_ : Aside0 (wc.heap[gb193]? = some (.cells #[.int .i64 a2_0, .int .i64 a2_1, .bool a2_2, .int .i64 a2_3, .int .i64 a2_4, .int .i64 a2_5] 36 (0, 0))) := ⟨by rw [← hq_]; exact (by (with_reducible repeat (first | refine blk_drewN ?_ _ | refine blk_drew ?_ | refine blk_alloc ?_ _)); exact BK193.out)⟩; have n2_ : Aside0 (wc.heap[gb194]? = some (.cells #[.int .i64 x195000_3, .int .i64 x195001_3, .int .i64 x195002_3] 33 (0, 0))) := ⟨by rw [← hq_]; exact (by (with_reducible repeat (first | refine blk_drewN ?_ _ | refine blk_drew ?_ | refine blk_alloc ?_ _)); exact BK194.out)⟩; have n3_ : Aside0 (wc.heap[gb195]? = some (.cells #[.int .i64 x196000_3, .int .i64 0, .int .i64 0] 33 (0, 0))) := ⟨by rw [← hq_]; exact (by (with_reducible repeat (first | refine blk_drewN ?_ _ | refine blk_drew ?_ | refine blk_alloc ?_ _)); exact BK195.out)⟩; have n4_ : Aside0 (Below w.heap.size w wc) := ⟨by rw [← hq_]; exact (by repeat (first | (with_reducible first | exact HB.out | apply below_alloc | apply pw_below_drewN | apply below_drew1 | refine below_set ?_ GE192.out | refine below_set ?_ GE193.out | refine below_set ?_ GE194.out | refine below_set ?_ GE195.out) | exact HB.out))⟩; clear BK192 BK193 BK194 BK195 HB hq_; have BK192 := n0_; have BK193 := n1_; have BK194 := n2_; have BK195 := n3_; have HB := n4_; clear n0_ n1_ n2_ n3_ n4_)); have hcz55_0 : wc.cell? ⟨gb195, 0, none⟩ = some (.int .i64 x196000_3) := (blk_cell BK195.out 0).trans rfl; have hcz55_1 : wc.cell? ⟨gb195, 1, none⟩ = some (.int .i64 0) := (blk_cell BK195.out 1).trans rfl; have hcz55_2 : wc.cell? ⟨gb195, 2, none⟩ = some (.int .i64 0) := (blk_cell BK195.out 2).trans rfl; have hfz55_0 := blk_frozen BK195.out 0; have hfz55_1 := blk_frozen BK195.out 1; have hfz55_2 := blk_frozen BK195.out 2))
     go_meet
     case rel => exact ⟨_, (t199), (t198), (by first | rfl | (simp; done) | (simp [*]; done)), H', ⟨by have := HJ3.out; first | omega | exact Nat.le_refl _⟩, ⟨by (with_reducible repeat (first | refine blk_drewN ?_ _ | refine blk_drew ?_ | refine blk_alloc ?_ _ | refine blk_far ?_ NB192_195.out _)); exact BK192.out⟩, ⟨by (with_reducible repeat (first | refine blk_drewN ?_ _ | refine blk_drew ?_ | refine blk_alloc ?_ _ | refine blk_far ?_ NB193_195.out _)); exact BK193.out⟩, ⟨by (with_reducible repeat (first | refine blk_drewN ?_ _ | refine blk_drew ?_ | refine blk_alloc ?_ _ | refine blk_far ?_ NB194_195.out _)); exact BK194.out⟩, ⟨by (with_reducible repeat (first | refine blk_drewN ?_ _ | refine blk_drew ?_ | refine blk_alloc ?_ _)); refine blk_put (cs := #[.int .i64 x196000_3, .int .i64 0, .int .i64 0]) ?_ 1 _ rfl; (with_reducible repeat (first | refine blk_drewN ?_ _ | refine blk_drew ?_ | refine blk_alloc ?_ _)); exact BK195.out⟩, ⟨by repeat (first | (with_reducible first | exact HB.out | apply below_alloc | apply pw_below_drewN | apply below_drew1 | refine below_set ?_ GE192.out | refine below_set ?_ GE193.out | refine below_set ?_ GE194.out | refine below_set ?_ GE195.out) | exact HB.out)⟩⟩
    ·
     rw [if_neg c46] at H
     have c46b0 : (x9_3 == 0) = false := beq_eq_false_iff_ne.mpr c46
     have c46b1 : (x9_3 != 0) = true := bne_iff_ne.mpr c46
     (first | rw [c46b0] | (simp only [i64_w, i32_w]; rw [c46b0]) | skip)
     have H' := Aside0.mk H
     clear H
     go_wp2
     go_meet
     case rel => exact ⟨_, (x9_3), (0), (by first | rfl | (simp; done) | (simp [*]; done)), H', ⟨by have := HJ3.out; first | omega | exact Nat.le_refl _⟩, ⟨by (with_reducible repeat (first | refine blk_drewN ?_ _ | refine blk_drew ?_ | refine blk_alloc ?_ _)); exact BK192.out⟩, ⟨by (with_reducible repeat (first | refine blk_drewN ?_ _ | refine blk_drew ?_ | refine blk_alloc ?_ _)); exact BK193.out⟩, ⟨by (with_reducible repeat (first | refine blk_drewN ?_ _ | refine blk_drew ?_ | refine blk_alloc ?_ _)); exact BK194.out⟩, ⟨by (with_reducible repeat (first | refine blk_drewN ?_ _ | refine blk_drew ?_ | refine blk_alloc ?_ _)); exact BK195.out⟩, ⟨by repeat (first | (with_reducible first | exact HB.out | apply below_alloc | apply pw_below_drewN | apply below_drew1 | refine below_set ?_ GE192.out | refine below_set ?_ GE193.out | refine below_set ?_ GE194.out | refine below_set ?_ GE195.out) | exact HB.out)⟩⟩
   case rest =>
    clear HC45
    try clear c1
    try clear c2
    try clear p2
    try clear c3
    try clear c4
    try clear c5
    try clear c9
    try clear c10
    try clear c11
    try clear c13
    try clear c14
    try clear c16
    try clear c16b0
    try clear c16b1
    try clear c17
    try clear c17b0
    try clear c18
    try clear c19
    try clear c20
    try clear c22
    try clear c23
    try clear c25
    try clear c25b0
    try clear c26
    try clear c27
    try clear c28
    try clear c30
    try clear c31
    try clear c33
    try clear c34
    try clear c35
    try clear c38
    try clear c39
    try clear c40
    try clear c42
    try clear c43
    try clear c46
    try clear c46b0
    try clear c46b1
    try clear c48
    try clear c49
    try clear c50
    try clear c52
    try clear c53
    try clear hcz12_0
    try clear hcz12_1
    try clear hcz12_2
    try clear hcz15_0
    try clear hcz15_1
    try clear hcz15_2
    try clear hcz15_3
    try clear hcz15_4
    try clear hcz21_0
    try clear hcz21_1
    try clear hcz21_2
    try clear hcz24_0
    try clear hcz24_1
    try clear hcz24_2
    try clear hcz29_0
    try clear hcz29_1
    try clear hcz29_2
    try clear hcz32_0
    try clear hcz32_1
    try clear hcz32_2
    try clear hcz36_0
    try clear hcz36_1
    try clear hcz36_2
    try clear hcz41_0
    try clear hcz41_1
    try clear hcz41_2
    try clear hcz41_3
    try clear hcz41_4
    try clear hcz41_5
    try clear hcz44_0
    try clear hcz44_1
    try clear hcz44_2
    try clear hcz51_0
    try clear hcz51_1
    try clear hcz51_2
    try clear hcz54_0
    try clear hcz54_1
    try clear hcz54_2
    try clear hcz54_3
    try clear hcz54_4
    try clear hcz54_5
    try clear hcz55_0
    try clear hcz55_1
    try clear hcz55_2
    try clear hfz12_0
    try clear hfz12_1
    try clear hfz12_2
    try clear hfz15_0
    try clear hfz15_1
    try clear hfz15_2
    try clear hfz15_3
    try clear hfz15_4
    try clear hfz21_0
    try clear hfz21_1
    try clear hfz21_2
    try clear hfz24_0
    try clear hfz24_1
    try clear hfz24_2
    try clear hfz29_0
    try clear hfz29_1
    try clear hfz29_2
    try clear hfz32_0
    try clear hfz32_1
    try clear hfz32_2
    try clear hfz36_0
    try clear hfz36_1
    try clear hfz36_2
    try clear hfz41_0
    try clear hfz41_1
    try clear hfz41_2
    try clear hfz41_3
    try clear hfz41_4
    try clear hfz41_5
    try clear hfz44_0
    try clear hfz44_1
    try clear hfz44_2
    try clear hfz51_0
    try clear hfz51_1
    try clear hfz51_2
    try clear hfz54_0
    try clear hfz54_1
    try clear hfz54_2
    try clear hfz54_3
    try clear hfz54_4
    try clear hfz54_5
    try clear hfz55_0
    try clear hfz55_1
    try clear hfz55_2
    try clear p2
    obtain ⟨kq, x9_44, x196001_44, rfl, HA, HJ44, BK192, BK193, BK194, BK195, HB⟩ := hcut
    cases kq with
    | zero => exact absurd HA.out (by simp [pledgeref10_Value.j1])
    | succ kj44 =>
     have H := HA.out
     clear HA
     simp only [pledgeref10_Value.j1] at H
     have HC56 := Aside0.mk H
     clear H
     go_upto_region 10 with (fail)
     go_cut [48] (fun v48 wc => ∃ (kq : Nat) (x48_55 : Bool), v48 = .bool x48_55 ∧ Aside0 (pledgeref10_Value.j2 kq x9_44 x48_55 a2_0 a2_1 a2_2 a2_3 a2_4 a2_5 x196000_3 x196001_44 0 = some (r1, r2, r3, r4)) ∧ Aside0 (kq ≤ kj44) ∧ Aside0 (wc.heap[gb192]? = some (.cells #[.int .i64 a0_0, .int .i64 a0_1, .int .i64 a0_2, .int .i64 a0_3, .int .i64 a0_4] 23 (0, 0))) ∧ Aside0 (wc.heap[gb193]? = some (.cells #[.int .i64 a2_0, .int .i64 a2_1, .bool a2_2, .int .i64 a2_3, .int .i64 a2_4, .int .i64 a2_5] 36 (0, 0))) ∧ Aside0 (wc.heap[gb194]? = some (.cells #[.int .i64 x195000_3, .int .i64 x195001_3, .int .i64 x195002_3] 33 (0, 0))) ∧ Aside0 (wc.heap[gb195]? = some (.cells #[.int .i64 x196000_3, .int .i64 x196001_44, .int .i64 0] 33 (0, 0))) ∧ Aside0 (Below w.heap.size w wc))
     case first =>
      have H := HC56.out
      clear HC56
      by_cases c57 : x9_44 = 0
      ·
       rw [if_pos c57] at H
       have c57b0 : (x9_44 == 0) = true := beq_iff_eq.mpr c57
       have c57b1 : (x9_44 != 0) = false := bne_eq_false_iff_eq.mpr c57
       clear c57
       (first | rw [c57b0] | (simp only [i64_w, i32_w]; rw [c57b0]) | skip)
       replace H := Option.bind_eq_some_iff.mp H
       obtain ⟨t200, A580, H⟩ := H
       replace H : (pledgeref10_Value.j2 kj44 x9_44 t200 a2_0 a2_1 a2_2 a2_3 a2_4 a2_5 x196000_3 x196001_44 0) = some (r1, r2, r3, r4) := H
       have A58 := Aside0.mk A580
       clear A580
       have H' := Aside0.mk H
       clear H
       have hnb59 := NB192_193.out
       have hnc59 := NB193_192.out
       have hnb60 := NB192_194.out
       have hnc60 := NB194_192.out
       have hnb61 := NB192_195.out
       have hnc61 := NB195_192.out
       have hcz62_0 : wc.cell? ⟨gb192, 0, none⟩ = some (.int .i64 a0_0) := (blk_cell BK192.out 0).trans rfl
       have hcz62_1 : wc.cell? ⟨gb192, 1, none⟩ = some (.int .i64 a0_1) := (blk_cell BK192.out 1).trans rfl
       have hcz62_2 : wc.cell? ⟨gb192, 2, none⟩ = some (.int .i64 a0_2) := (blk_cell BK192.out 2).trans rfl
       have hcz62_3 : wc.cell? ⟨gb192, 3, none⟩ = some (.int .i64 a0_3) := (blk_cell BK192.out 3).trans rfl
       have hcz62_4 : wc.cell? ⟨gb192, 4, none⟩ = some (.int .i64 a0_4) := (blk_cell BK192.out 4).trans rfl
       have hfz62_0 := blk_frozen BK192.out 0
       have hfz62_1 := blk_frozen BK192.out 1
       have hfz62_2 := blk_frozen BK192.out 2
       have hfz62_3 := blk_frozen BK192.out 3
       have hfz62_4 := blk_frozen BK192.out 4
       have hnb63 := NB193_194.out
       have hnc63 := NB194_193.out
       have hnb64 := NB193_195.out
       have hnc64 := NB195_193.out
       have hcz65_0 : wc.cell? ⟨gb193, 0, none⟩ = some (.int .i64 a2_0) := (blk_cell BK193.out 0).trans rfl
       have hcz65_1 : wc.cell? ⟨gb193, 1, none⟩ = some (.int .i64 a2_1) := (blk_cell BK193.out 1).trans rfl
       have hcz65_2 : wc.cell? ⟨gb193, 2, none⟩ = some (.bool a2_2) := (blk_cell BK193.out 2).trans rfl
       have hcz65_3 : wc.cell? ⟨gb193, 3, none⟩ = some (.int .i64 a2_3) := (blk_cell BK193.out 3).trans rfl
       have hcz65_4 : wc.cell? ⟨gb193, 4, none⟩ = some (.int .i64 a2_4) := (blk_cell BK193.out 4).trans rfl
       have hcz65_5 : wc.cell? ⟨gb193, 5, none⟩ = some (.int .i64 a2_5) := (blk_cell BK193.out 5).trans rfl
       have hfz65_0 := blk_frozen BK193.out 0
       have hfz65_1 := blk_frozen BK193.out 1
       have hfz65_2 := blk_frozen BK193.out 2
       have hfz65_3 := blk_frozen BK193.out 3
       have hfz65_4 := blk_frozen BK193.out 4
       have hfz65_5 := blk_frozen BK193.out 5
       go_wp2_with (first | (go_at_call 13; (with_reducible refine (pledgeref10_Counts.calls a0_0 a0_1 a0_2 a0_3 a0_4 a2_0 a2_1 a2_2 a2_3 a2_4 a2_5 t200 _ A58.out).mono ?_); rintro e w66 ⟨rfl, hb⟩; have n0_ := Aside0.mk (blk_below (g := gb192) (o := .cells #[.int .i64 a0_0, .int .i64 a0_1, .int .i64 a0_2, .int .i64 a0_3, .int .i64 a0_4] 23 (0, 0)) (by (with_reducible repeat (first | refine blk_drewN ?_ _ | refine blk_drew ?_ | refine blk_alloc ?_ _)); exact BK192.out) hb); have n1_ := Aside0.mk (blk_below (g := gb193) (o := .cells #[.int .i64 a2_0, .int .i64 a2_1, .bool a2_2, .int .i64 a2_3, .int .i64 a2_4, .int .i64 a2_5] 36 (0, 0)) (by (with_reducible repeat (first | refine blk_drewN ?_ _ | refine blk_drew ?_ | refine blk_alloc ?_ _)); exact BK193.out) hb); have n2_ := Aside0.mk (blk_below (g := gb194) (o := .cells #[.int .i64 x195000_3, .int .i64 x195001_3, .int .i64 x195002_3] 33 (0, 0)) (by (with_reducible repeat (first | refine blk_drewN ?_ _ | refine blk_drew ?_ | refine blk_alloc ?_ _)); exact BK194.out) hb); have n3_ := Aside0.mk (blk_below (g := gb195) (o := .cells #[.int .i64 x196000_3, .int .i64 x196001_44, .int .i64 0] 33 (0, 0)) (by (with_reducible repeat (first | refine blk_drewN ?_ _ | refine blk_drew ?_ | refine blk_alloc ?_ _)); exact BK195.out) hb); have n4_ := Aside0.mk (below_step (by repeat (first | (with_reducible first | exact HB.out | apply below_alloc | apply pw_below_drewN | apply below_drew1 | refine below_set ?_ GE192.out | refine below_set ?_ GE193.out | refine below_set ?_ GE194.out | refine below_set ?_ GE195.out) | exact HB.out)) hb); clear BK192; clear BK193; clear BK194; clear BK195; clear HB; have BK192 := n0_; have BK193 := n1_; have BK194 := n2_; have BK195 := n3_; have HB := n4_; clear n0_ n1_ n2_ n3_ n4_; (try clear hb); (try clear hb2); (try clear hk); (try clear hi)))
       go_meet
       case rel => exact ⟨_, (t200), (by first | rfl | (simp; done) | (simp [*]; done)), H', ⟨by have := HJ3.out; have := HJ44.out; first | omega | exact Nat.le_refl _⟩, ⟨by (with_reducible repeat (first | refine blk_drewN ?_ _ | refine blk_drew ?_ | refine blk_alloc ?_ _)); exact BK192.out⟩, ⟨by (with_reducible repeat (first | refine blk_drewN ?_ _ | refine blk_drew ?_ | refine blk_alloc ?_ _)); exact BK193.out⟩, ⟨by (with_reducible repeat (first | refine blk_drewN ?_ _ | refine blk_drew ?_ | refine blk_alloc ?_ _)); exact BK194.out⟩, ⟨by (with_reducible repeat (first | refine blk_drewN ?_ _ | refine blk_drew ?_ | refine blk_alloc ?_ _)); exact BK195.out⟩, ⟨by repeat (first | (with_reducible first | exact HB.out | apply below_alloc | apply pw_below_drewN | apply below_drew1 | refine below_set ?_ GE192.out | refine below_set ?_ GE193.out | refine below_set ?_ GE194.out | refine below_set ?_ GE195.out) | exact HB.out)⟩⟩
      ·
       rw [if_neg c57] at H
       have c57b0 : (x9_44 == 0) = false := beq_eq_false_iff_ne.mpr c57
       have c57b1 : (x9_44 != 0) = true := bne_iff_ne.mpr c57
       (first | rw [c57b0] | (simp only [i64_w, i32_w]; rw [c57b0]) | skip)
       have H' := Aside0.mk H
       clear H
       go_wp2
       go_meet
       case rel => exact ⟨_, (false), (by first | rfl | (simp; done) | (simp [*]; done)), H', ⟨by have := HJ3.out; have := HJ44.out; first | omega | exact Nat.le_refl _⟩, ⟨by (with_reducible repeat (first | refine blk_drewN ?_ _ | refine blk_drew ?_ | refine blk_alloc ?_ _)); exact BK192.out⟩, ⟨by (with_reducible repeat (first | refine blk_drewN ?_ _ | refine blk_drew ?_ | refine blk_alloc ?_ _)); exact BK193.out⟩, ⟨by (with_reducible repeat (first | refine blk_drewN ?_ _ | refine blk_drew ?_ | refine blk_alloc ?_ _)); exact BK194.out⟩, ⟨by (with_reducible repeat (first | refine blk_drewN ?_ _ | refine blk_drew ?_ | refine blk_alloc ?_ _)); exact BK195.out⟩, ⟨by repeat (first | (with_reducible first | exact HB.out | apply below_alloc | apply pw_below_drewN | apply below_drew1 | refine below_set ?_ GE192.out | refine below_set ?_ GE193.out | refine below_set ?_ GE194.out | refine below_set ?_ GE195.out) | exact HB.out)⟩⟩
     case rest =>
      clear HC56
      try clear c1
      try clear c2
      try clear p2
      try clear c3
      try clear c4
      try clear c5
      try clear c6
      try clear c9
      try clear c10
      try clear c11
      try clear c13
      try clear c14
      try clear c16
      try clear c16b0
      try clear c16b1
      try clear c17
      try clear c17b0
      try clear c18
      try clear c19
      try clear c20
      try clear c22
      try clear c23
      try clear c25
      try clear c25b0
      try clear c26
      try clear c27
      try clear c28
      try clear c30
      try clear c31
      try clear c33
      try clear c34
      try clear c35
      try clear c38
      try clear c39
      try clear c40
      try clear c42
      try clear c43
      try clear c46
      try clear c46b0
      try clear c46b1
      try clear c48
      try clear c49
      try clear c50
      try clear c52
      try clear c53
      try clear c57
      try clear c57b0
      try clear c57b1
      try clear c59
      try clear c60
      try clear c61
      try clear c63
      try clear c64
      try clear hcz12_0
      try clear hcz12_1
      try clear hcz12_2
      try clear hcz15_0
      try clear hcz15_1
      try clear hcz15_2
      try clear hcz15_3
      try clear hcz15_4
      try clear hcz21_0
      try clear hcz21_1
      try clear hcz21_2
      try clear hcz24_0
      try clear hcz24_1
      try clear hcz24_2
      try clear hcz29_0
      try clear hcz29_1
      try clear hcz29_2
      try clear hcz32_0
      try clear hcz32_1
      try clear hcz32_2
      try clear hcz36_0
      try clear hcz36_1
      try clear hcz36_2
      try clear hcz41_0
      try clear hcz41_1
      try clear hcz41_2
      try clear hcz41_3
      try clear hcz41_4
      try clear hcz41_5
      try clear hcz44_0
      try clear hcz44_1
      try clear hcz44_2
      try clear hcz51_0
      try clear hcz51_1
      try clear hcz51_2
      try clear hcz54_0
      try clear hcz54_1
      try clear hcz54_2
      try clear hcz54_3
      try clear hcz54_4
      try clear hcz54_5
      try clear hcz55_0
      try clear hcz55_1
      try clear hcz55_2
      try clear hcz62_0
      try clear hcz62_1
      try clear hcz62_2
      try clear hcz62_3
      try clear hcz62_4
      try clear hcz65_0
      try clear hcz65_1
      try clear hcz65_2
      try clear hcz65_3
      try clear hcz65_4
      try clear hcz65_5
      try clear hfz12_0
      try clear hfz12_1
      try clear hfz12_2
      try clear hfz15_0
      try clear hfz15_1
      try clear hfz15_2
      try clear hfz15_3
      try clear hfz15_4
      try clear hfz21_0
      try clear hfz21_1
      try clear hfz21_2
      try clear hfz24_0
      try clear hfz24_1
      try clear hfz24_2
      try clear hfz29_0
      try clear hfz29_1
      try clear hfz29_2
      try clear hfz32_0
      try clear hfz32_1
      try clear hfz32_2
      try clear hfz36_0
      try clear hfz36_1
      try clear hfz36_2
      try clear hfz41_0
      try clear hfz41_1
      try clear hfz41_2
      try clear hfz41_3
      try clear hfz41_4
      try clear hfz41_5
      try clear hfz44_0
      try clear hfz44_1
      try clear hfz44_2
      try clear hfz51_0
      try clear hfz51_1
      try clear hfz51_2
      try clear hfz54_0
      try clear hfz54_1
      try clear hfz54_2
      try clear hfz54_3
      try clear hfz54_4
      try clear hfz54_5
      try clear hfz55_0
      try clear hfz55_1
      try clear hfz55_2
      try clear hfz62_0
      try clear hfz62_1
      try clear hfz62_2
      try clear hfz62_3
      try clear hfz62_4
      try clear hfz65_0
      try clear hfz65_1
      try clear hfz65_2
      try clear hfz65_3
      try clear hfz65_4
      try clear hfz65_5
      try clear p2
      obtain ⟨kq, x48_55, rfl, HA, HJ55, BK192, BK193, BK194, BK195, HB⟩ := hcut
      cases kq with
      | zero => exact absurd HA.out (by simp [pledgeref10_Value.j2])
      | succ kj55 =>
       have H := HA.out
       clear HA
       simp only [pledgeref10_Value.j2] at H
       by_cases c67 : x48_55 = true
       ·
        subst c67
        have H1 : ((pledgeref1_Less.f kj55 x196001_44 a2_5).bind fun bt201 => (if bt201.2 = 0 then (some (x196000_3, x196001_44, bt201.1, bt201.2)) else (some (0, 0, 0, bt201.2)))) = some (r1, r2, r3, r4) := by rw [if_pos rfl] at H; exact H
        clear H
        have H := H1
        clear H1
        replace H := Option.bind_eq_some_iff.mp H
        obtain ⟨⟨t201, t202⟩, A680, H⟩ := H
        replace H : (if t202 = 0 then (some (x196000_3, x196001_44, t201, t202)) else (some (0, 0, 0, t202))) = some (r1, r2, r3, r4) := H
        have A68 := Aside0.mk A680
        clear A680
        by_cases c69 : t202 = 0
        ·
         rw [if_pos c69] at H
         have c69b0 : (t202 == 0) = true := beq_iff_eq.mpr c69
         have c69b1 : (t202 != 0) = false := bne_eq_false_iff_eq.mpr c69
         clear c69
         simp only [Option.some.injEq, Prod.mk.injEq] at H
         obtain ⟨rfl, rfl, rfl, rfl⟩ := H
         have hnb70 := NB195_192.out
         have hnc70 := NB192_195.out
         have hnb71 := NB195_193.out
         have hnc71 := NB193_195.out
         have hnb72 := NB195_194.out
         have hnc72 := NB194_195.out
         have hcz73_0 : wc.cell? ⟨gb195, 0, none⟩ = some (.int .i64 x196000_3) := (blk_cell BK195.out 0).trans rfl
         have hcz73_1 : wc.cell? ⟨gb195, 1, none⟩ = some (.int .i64 x196001_44) := (blk_cell BK195.out 1).trans rfl
         have hcz73_2 : wc.cell? ⟨gb195, 2, none⟩ = some (.int .i64 0) := (blk_cell BK195.out 2).trans rfl
         have hfz73_0 := blk_frozen BK195.out 0
         have hfz73_1 := blk_frozen BK195.out 1
         have hfz73_2 := blk_frozen BK195.out 2
         have hnb74 := NB193_192.out
         have hnc74 := NB192_193.out
         have hnb75 := NB193_194.out
         have hnc75 := NB194_193.out
         have hcz76_0 : wc.cell? ⟨gb193, 0, none⟩ = some (.int .i64 a2_0) := (blk_cell BK193.out 0).trans rfl
         have hcz76_1 : wc.cell? ⟨gb193, 1, none⟩ = some (.int .i64 a2_1) := (blk_cell BK193.out 1).trans rfl
         have hcz76_2 : wc.cell? ⟨gb193, 2, none⟩ = some (.bool a2_2) := (blk_cell BK193.out 2).trans rfl
         have hcz76_3 : wc.cell? ⟨gb193, 3, none⟩ = some (.int .i64 a2_3) := (blk_cell BK193.out 3).trans rfl
         have hcz76_4 : wc.cell? ⟨gb193, 4, none⟩ = some (.int .i64 a2_4) := (blk_cell BK193.out 4).trans rfl
         have hcz76_5 : wc.cell? ⟨gb193, 5, none⟩ = some (.int .i64 a2_5) := (blk_cell BK193.out 5).trans rfl
         have hfz76_0 := blk_frozen BK193.out 0
         have hfz76_1 := blk_frozen BK193.out 1
         have hfz76_2 := blk_frozen BK193.out 2
         have hfz76_3 := blk_frozen BK193.out 3
         have hfz76_4 := blk_frozen BK193.out 4
         have hfz76_5 := blk_frozen BK193.out 5
         go_wp2_with (first | ((with_reducible refine gate_callee (f := 20) rfl ?_); refine goesL_ (some 54) rfl rfl Tryd.func20 (by kernel_rfl) rfl #[.int .i64 x196001_44, .int .i64 a2_5] rfl (by (try simp only [List.map_toArray, List.map_cons, List.map_nil]); first | done | rfl | (simp only [List.length_drop, List.length_take]; rfl)) ?_; (with_reducible refine (pledgeref1_Less.calls kj55 x196001_44 a2_5 t201 t202 _ A68.out).mono ?_); rintro e w' ⟨rfl, ⟨nd, rfl⟩⟩; refine ⟨_, rfl, ?_⟩; (try (rw [drewN_self wc]; generalize hq_ : World.drewN wc _ = wc; have n0_ : Aside0 (wc.heap[gb192]? = some (.cells #[.int .i64 a0_0, .int .i64 a0_1, .int .i64 a0_2, .int .i64 a0_3, .int .i64 a0_4] 23 (0, 0))) := ⟨by rw [← hq_]; exact (by (with_reducible repeat (first | refine blk_drewN ?_ _ | refine blk_drew ?_ | refine blk_alloc ?_ _)); exact BK192.out)⟩; have n1_ : Aside0 (wc.heap[gb193]? = some (.cells #[.int .i64 a2_0, .int .i64 a2_1, .bool a2_2, .int .i64 a2_3, .int .i64 a2_4, .int .i64 a2_5] 36 (0, 0))) := ⟨by rw [← hq_]; exact (by (with_reducible repeat (first | refine blk_drewN ?_ _ | refine blk_drew ?_ | refine blk_alloc ?_ _)); exact BK193.out)⟩; have n2_ : Aside0 (wc.heap[gb194]? = some (.cells #[.int .i64 x195000_3, .int .i64 x195001_3, .int .i64 x195002_3] 33 (0, 0))) := ⟨by rw [← hq_]; exact (by (with_reducible repeat (first | refine blk_drewN ?_ _ | refine blk_drew ?_ | refine blk_alloc ?_ _)); exact BK194.out)⟩; have n3_ : Aside0 (wc.heap[gb195]? = some (.cells #[.int .i64 x196000_3, .int .i64 x196001_44, .int .i64 0] 33 (0, 0))) := ⟨by rw [← hq_]; exact (by (with_reducible repeat (first | refine blk_drewN ?_ _ | refine blk_drew ?_ | refine blk_alloc ?_ _)); exact BK195.out)⟩; have n4_ : Aside0 (Below w.heap.size w wc) := ⟨by rw [← hq_]; exact (by repeat (first | (with_reducible first | exact HB.out | apply below_alloc | apply pw_below_drewN | apply below_drew1 | refine below_set ?_ GE192.out | refine below_set ?_ GE193.out | refine below_set ?_ GE194.out | refine below_set ?_ GE195.out) | exact HB.out))⟩; clear BK192 BK193 BK194 BK195 HB hq_; have BK192 := n0_; have BK193 := n1_; have BK194 := n2_; have BK195 := n3_; have HB := n4_; clear n0_ n1_ n2_ n3_ n4_)); have hcz77_0 : wc.cell? ⟨gb195, 0, none⟩ = some (.int .i64 x196000_3) := (blk_cell BK195.out 0).trans rfl; have hcz77_1 : wc.cell? ⟨gb195, 1, none⟩ = some (.int .i64 x196001_44) := (blk_cell BK195.out 1).trans rfl; have hcz77_2 : wc.cell? ⟨gb195, 2, none⟩ = some (.int .i64 0) := (blk_cell BK195.out 2).trans rfl; have hfz77_0 := blk_frozen BK195.out 0; have hfz77_1 := blk_frozen BK195.out 1; have hfz77_2 := blk_frozen BK195.out 2; have hnb78 := NB194_192.out; have hnc78 := NB192_194.out; have hcz79_0 : wc.cell? ⟨gb194, 0, none⟩ = some (.int .i64 x195000_3) := (blk_cell BK194.out 0).trans rfl; have hcz79_1 : wc.cell? ⟨gb194, 1, none⟩ = some (.int .i64 x195001_3) := (blk_cell BK194.out 1).trans rfl; have hcz79_2 : wc.cell? ⟨gb194, 2, none⟩ = some (.int .i64 x195002_3) := (blk_cell BK194.out 2).trans rfl; have hfz79_0 := blk_frozen BK194.out 0; have hfz79_1 := blk_frozen BK194.out 1; have hfz79_2 := blk_frozen BK194.out 2))
         refine bodyPost_ret (results_ct rfl _ _ gb194 33 #[.int .i64 x196000_3, .int .i64 x196001_44, .int .i64 t201] (0, 0) _ rfl (by (with_reducible repeat (first | refine blk_drewN ?_ _ | refine blk_drew ?_ | refine blk_alloc ?_ _)); refine blk_put (cs := #[.int .i64 x196000_3, .int .i64 x196001_44, .int .i64 x195002_3]) ?_ 2 _ rfl; (with_reducible repeat (first | refine blk_drewN ?_ _ | refine blk_drew ?_ | refine blk_alloc ?_ _)); refine blk_put (cs := #[.int .i64 x196000_3, .int .i64 x195001_3, .int .i64 x195002_3]) ?_ 1 _ rfl; (with_reducible repeat (first | refine blk_drewN ?_ _ | refine blk_drew ?_ | refine blk_alloc ?_ _)); refine blk_put (cs := #[.int .i64 x195000_3, .int .i64 x195001_3, .int .i64 x195002_3]) ?_ 0 _ rfl; (with_reducible repeat (first | refine blk_drewN ?_ _ | refine blk_drew ?_ | refine blk_alloc ?_ _ | refine blk_far ?_ NB194_195.out _)); exact BK194.out) Tryd.underlying33 rfl (by kernel_rfl)) rfl ?_
         exact ⟨by first | rfl | (simp [errW_none, errW_some] <;> rfl) | (exfalso; simp_all; done) | (simp [*, errW_none, errW_some] <;> rfl), by repeat (first | (with_reducible first | exact HB.out | apply below_alloc | apply pw_below_drewN | apply below_drew1 | refine below_set ?_ GE192.out | refine below_set ?_ GE193.out | refine below_set ?_ GE194.out | refine below_set ?_ GE195.out) | exact HB.out)⟩
        ·
         rw [if_neg c69] at H
         have c69b0 : (t202 == 0) = false := beq_eq_false_iff_ne.mpr c69
         have c69b1 : (t202 != 0) = true := bne_iff_ne.mpr c69
         simp only [Option.some.injEq, Prod.mk.injEq] at H
         obtain ⟨rfl, rfl, rfl, rfl⟩ := H
         have hnb80 := NB195_192.out
         have hnc80 := NB192_195.out
         have hnb81 := NB195_193.out
         have hnc81 := NB193_195.out
         have hnb82 := NB195_194.out
         have hnc82 := NB194_195.out
         have hcz83_0 : wc.cell? ⟨gb195, 0, none⟩ = some (.int .i64 x196000_3) := (blk_cell BK195.out 0).trans rfl
         have hcz83_1 : wc.cell? ⟨gb195, 1, none⟩ = some (.int .i64 x196001_44) := (blk_cell BK195.out 1).trans rfl
         have hcz83_2 : wc.cell? ⟨gb195, 2, none⟩ = some (.int .i64 0) := (blk_cell BK195.out 2).trans rfl
         have hfz83_0 := blk_frozen BK195.out 0
         have hfz83_1 := blk_frozen BK195.out 1
         have hfz83_2 := blk_frozen BK195.out 2
         have hnb84 := NB193_192.out
         have hnc84 := NB192_193.out
         have hnb85 := NB193_194.out
         have hnc85 := NB194_193.out
         have hcz86_0 : wc.cell? ⟨gb193, 0, none⟩ = some (.int .i64 a2_0) := (blk_cell BK193.out 0).trans rfl
         have hcz86_1 : wc.cell? ⟨gb193, 1, none⟩ = some (.int .i64 a2_1) := (blk_cell BK193.out 1).trans rfl
         have hcz86_2 : wc.cell? ⟨gb193, 2, none⟩ = some (.bool a2_2) := (blk_cell BK193.out 2).trans rfl
         have hcz86_3 : wc.cell? ⟨gb193, 3, none⟩ = some (.int .i64 a2_3) := (blk_cell BK193.out 3).trans rfl
         have hcz86_4 : wc.cell? ⟨gb193, 4, none⟩ = some (.int .i64 a2_4) := (blk_cell BK193.out 4).trans rfl
         have hcz86_5 : wc.cell? ⟨gb193, 5, none⟩ = some (.int .i64 a2_5) := (blk_cell BK193.out 5).trans rfl
         have hfz86_0 := blk_frozen BK193.out 0
         have hfz86_1 := blk_frozen BK193.out 1
         have hfz86_2 := blk_frozen BK193.out 2
         have hfz86_3 := blk_frozen BK193.out 3
         have hfz86_4 := blk_frozen BK193.out 4
         have hfz86_5 := blk_frozen BK193.out 5
         go_wp2_with (first | ((with_reducible refine gate_callee (f := 20) rfl ?_); refine goesL_ (some 54) rfl rfl Tryd.func20 (by kernel_rfl) rfl #[.int .i64 x196001_44, .int .i64 a2_5] rfl (by (try simp only [List.map_toArray, List.map_cons, List.map_nil]); first | done | rfl | (simp only [List.length_drop, List.length_take]; rfl)) ?_; (with_reducible refine (pledgeref1_Less.calls kj55 x196001_44 a2_5 t201 t202 _ A68.out).mono ?_); rintro e w' ⟨rfl, ⟨nd, rfl⟩⟩; refine ⟨_, rfl, ?_⟩; (try (rw [drewN_self wc]; generalize hq_ : World.drewN wc _ = wc; have n0_ : Aside0 (wc.heap[gb192]? = some (.cells #[.int .i64 a0_0, .int .i64 a0_1, .int .i64 a0_2, .int .i64 a0_3, .int .i64 a0_4] 23 (0, 0))) := ⟨by rw [← hq_]; exact (by (with_reducible repeat (first | refine blk_drewN ?_ _ | refine blk_drew ?_ | refine blk_alloc ?_ _)); exact BK192.out)⟩; have n1_ : Aside0 (wc.heap[gb193]? = some (.cells #[.int .i64 a2_0, .int .i64 a2_1, .bool a2_2, .int .i64 a2_3, .int .i64 a2_4, .int .i64 a2_5] 36 (0, 0))) := ⟨by rw [← hq_]; exact (by (with_reducible repeat (first | refine blk_drewN ?_ _ | refine blk_drew ?_ | refine blk_alloc ?_ _)); exact BK193.out)⟩; have n2_ : Aside0 (wc.heap[gb194]? = some (.cells #[.int .i64 x195000_3, .int .i64 x195001_3, .int .i64 x195002_3] 33 (0, 0))) := ⟨by rw [← hq_]; exact (by (with_reducible repeat (first | refine blk_drewN ?_ _ | refine blk_drew ?_ | refine blk_alloc ?_ _)); exact BK194.out)⟩; have n3_ : Aside0 (wc.heap[gb195]? = some (.cells #[.int .i64 x196000_3, .int .i64 x196001_44, .int .i64 0] 33 (0, 0))) := ⟨by rw [← hq_]; exact (by (with_reducible repeat (first | refine blk_drewN ?_ _ | refine blk_drew ?_ | refine blk_alloc ?_ _)); exact BK195.out)⟩; have n4_ : Aside0 (Below w.heap.size w wc) := ⟨by rw [← hq_]; exact (by repeat (first | (with_reducible first | exact HB.out | apply below_alloc | apply pw_below_drewN | apply below_drew1 | refine below_set ?_ GE192.out | refine below_set ?_ GE193.out | refine below_set ?_ GE194.out | refine below_set ?_ GE195.out) | exact HB.out))⟩; clear BK192 BK193 BK194 BK195 HB hq_; have BK192 := n0_; have BK193 := n1_; have BK194 := n2_; have BK195 := n3_; have HB := n4_; clear n0_ n1_ n2_ n3_ n4_)); have hcz87_0 : wc.cell? ⟨gb195, 0, none⟩ = some (.int .i64 x196000_3) := (blk_cell BK195.out 0).trans rfl; have hcz87_1 : wc.cell? ⟨gb195, 1, none⟩ = some (.int .i64 x196001_44) := (blk_cell BK195.out 1).trans rfl; have hcz87_2 : wc.cell? ⟨gb195, 2, none⟩ = some (.int .i64 0) := (blk_cell BK195.out 2).trans rfl; have hfz87_0 := blk_frozen BK195.out 0; have hfz87_1 := blk_frozen BK195.out 1; have hfz87_2 := blk_frozen BK195.out 2; have hnb88 := NB194_192.out; have hnc88 := NB192_194.out; have hcz89_0 : wc.cell? ⟨gb194, 0, none⟩ = some (.int .i64 x195000_3) := (blk_cell BK194.out 0).trans rfl; have hcz89_1 : wc.cell? ⟨gb194, 1, none⟩ = some (.int .i64 x195001_3) := (blk_cell BK194.out 1).trans rfl; have hcz89_2 : wc.cell? ⟨gb194, 2, none⟩ = some (.int .i64 x195002_3) := (blk_cell BK194.out 2).trans rfl; have hfz89_0 := blk_frozen BK194.out 0; have hfz89_1 := blk_frozen BK194.out 1; have hfz89_2 := blk_frozen BK194.out 2))
         refine bodyPost_ret (results_ct rfl _ _ gb194 33 #[.int .i64 0, .int .i64 0, .int .i64 0] (0, 0) _ rfl (by (with_reducible repeat (first | refine blk_drewN ?_ _ | refine blk_drew ?_ | refine blk_alloc ?_ _)); refine blk_put (cs := #[.int .i64 0, .int .i64 0, .int .i64 x195002_3]) ?_ 2 _ rfl; (with_reducible repeat (first | refine blk_drewN ?_ _ | refine blk_drew ?_ | refine blk_alloc ?_ _)); refine blk_put (cs := #[.int .i64 0, .int .i64 x195001_3, .int .i64 x195002_3]) ?_ 1 _ rfl; (with_reducible repeat (first | refine blk_drewN ?_ _ | refine blk_drew ?_ | refine blk_alloc ?_ _)); refine blk_put (cs := #[.int .i64 x195000_3, .int .i64 x195001_3, .int .i64 x195002_3]) ?_ 0 _ rfl; (with_reducible repeat (first | refine blk_drewN ?_ _ | refine blk_drew ?_ | refine blk_alloc ?_ _ | refine blk_far ?_ NB194_195.out _)); exact BK194.out) Tryd.underlying33 rfl (by kernel_rfl)) rfl ?_
         exact ⟨by first | rfl | (simp [errW_none, errW_some] <;> rfl) | (exfalso; simp_all; done) | (simp [*, errW_none, errW_some] <;> rfl), by repeat (first | (with_reducible first | exact HB.out | apply below_alloc | apply pw_below_drewN | apply below_drew1 | refine below_set ?_ GE192.out | refine below_set ?_ GE193.out | refine below_set ?_ GE194.out | refine below_set ?_ GE195.out) | exact HB.out)⟩
       ·
        replace c67 := Bool.eq_false_iff.mpr c67
        subst c67
        have H1 : (if x9_44 = 0 then (some (x196000_3, x196001_44, 0, x9_44)) else (some (0, 0, 0, x9_44))) = some (r1, r2, r3, r4) := by rw [if_neg (show ¬ (false = true) by decide)] at H; exact H
        clear H
        have H := H1
        clear H1
        by_cases c90 : x9_44 = 0
        ·
         rw [if_pos c90] at H
         have c90b0 : (x9_44 == 0) = true := beq_iff_eq.mpr c90
         have c90b1 : (x9_44 != 0) = false := bne_eq_false_iff_eq.mpr c90
         clear c90
         simp only [Option.some.injEq, Prod.mk.injEq] at H
         obtain ⟨rfl, rfl, rfl, rfl⟩ := H
         have hnb91 := NB195_192.out
         have hnc91 := NB192_195.out
         have hnb92 := NB195_193.out
         have hnc92 := NB193_195.out
         have hnb93 := NB195_194.out
         have hnc93 := NB194_195.out
         have hcz94_0 : wc.cell? ⟨gb195, 0, none⟩ = some (.int .i64 x196000_3) := (blk_cell BK195.out 0).trans rfl
         have hcz94_1 : wc.cell? ⟨gb195, 1, none⟩ = some (.int .i64 x196001_44) := (blk_cell BK195.out 1).trans rfl
         have hcz94_2 : wc.cell? ⟨gb195, 2, none⟩ = some (.int .i64 0) := (blk_cell BK195.out 2).trans rfl
         have hfz94_0 := blk_frozen BK195.out 0
         have hfz94_1 := blk_frozen BK195.out 1
         have hfz94_2 := blk_frozen BK195.out 2
         have hnb95 := NB194_192.out
         have hnc95 := NB192_194.out
         have hnb96 := NB194_193.out
         have hnc96 := NB193_194.out
         have hcz97_0 : wc.cell? ⟨gb194, 0, none⟩ = some (.int .i64 x195000_3) := (blk_cell BK194.out 0).trans rfl
         have hcz97_1 : wc.cell? ⟨gb194, 1, none⟩ = some (.int .i64 x195001_3) := (blk_cell BK194.out 1).trans rfl
         have hcz97_2 : wc.cell? ⟨gb194, 2, none⟩ = some (.int .i64 x195002_3) := (blk_cell BK194.out 2).trans rfl
         have hfz97_0 := blk_frozen BK194.out 0
         have hfz97_1 := blk_frozen BK194.out 1
         have hfz97_2 := blk_frozen BK194.out 2
         go_wp2
         refine bodyPost_ret (results_ct rfl _ _ gb194 33 #[.int .i64 x196000_3, .int .i64 x196001_44, .int .i64 0] (0, 0) _ rfl (by (with_reducible repeat (first | refine blk_drewN ?_ _ | refine blk_drew ?_ | refine blk_alloc ?_ _)); refine blk_put (cs := #[.int .i64 x196000_3, .int .i64 x196001_44, .int .i64 x195002_3]) ?_ 2 _ rfl; (with_reducible repeat (first | refine blk_drewN ?_ _ | refine blk_drew ?_ | refine blk_alloc ?_ _)); refine blk_put (cs := #[.int .i64 x196000_3, .int .i64 x195001_3, .int .i64 x195002_3]) ?_ 1 _ rfl; (with_reducible repeat (first | refine blk_drewN ?_ _ | refine blk_drew ?_ | refine blk_alloc ?_ _)); refine blk_put (cs := #[.int .i64 x195000_3, .int .i64 x195001_3, .int .i64 x195002_3]) ?_ 0 _ rfl; (with_reducible repeat (first | refine blk_drewN ?_ _ | refine blk_drew ?_ | refine blk_alloc ?_ _)); exact BK194.out) Tryd.underlying33 rfl (by kernel_rfl)) rfl ?_
         exact ⟨by first | rfl | (simp [errW_none, errW_some] <;> rfl) | (exfalso; simp_all; done) | (simp [*, errW_none, errW_some] <;> rfl), by repeat (first | (with_reducible first | exact HB.out | apply below_alloc | apply pw_below_drewN | apply below_drew1 | refine below_set ?_ GE192.out | refine below_set ?_ GE193.out | refine below_set ?_ GE194.out | refine below_set ?_ GE195.out) | exact HB.out)⟩
        ·
         rw [if_neg c90] at H
         have c90b0 : (x9_44 == 0) = false := beq_eq_false_iff_ne.mpr c90
         have c90b1 : (x9_44 != 0) = true := bne_iff_ne.mpr c90
         simp only [Option.some.injEq, Prod.mk.injEq] at H
         obtain ⟨rfl, rfl, rfl, rfl⟩ := H
         have hnb98 := NB194_192.out
         have hnc98 := NB192_194.out
         have hnb99 := NB194_193.out
         have hnc99 := NB193_194.out
         have hnb100 := NB194_195.out
         have hnc100 := NB195_194.out
         have hcz101_0 : wc.cell? ⟨gb194, 0, none⟩ = some (.int .i64 x195000_3) := (blk_cell BK194.out 0).trans rfl
         have hcz101_1 : wc.cell? ⟨gb194, 1, none⟩ = some (.int .i64 x195001_3) := (blk_cell BK194.out 1).trans rfl
         have hcz101_2 : wc.cell? ⟨gb194, 2, none⟩ = some (.int .i64 x195002_3) := (blk_cell BK194.out 2).trans rfl
         have hfz101_0 := blk_frozen BK194.out 0
         have hfz101_1 := blk_frozen BK194.out 1
         have hfz101_2 := blk_frozen BK194.out 2
         go_wp2
         refine bodyPost_ret (results_ct rfl _ _ gb194 33 #[.int .i64 0, .int .i64 0, .int .i64 0] (0, 0) _ rfl (by (with_reducible repeat (first | refine blk_drewN ?_ _ | refine blk_drew ?_ | refine blk_alloc ?_ _)); refine blk_put (cs := #[.int .i64 0, .int .i64 0, .int .i64 x195002_3]) ?_ 2 _ rfl; (with_reducible repeat (first | refine blk_drewN ?_ _ | refine blk_drew ?_ | refine blk_alloc ?_ _)); refine blk_put (cs := #[.int .i64 0, .int .i64 x195001_3, .int .i64 x195002_3]) ?_ 1 _ rfl; (with_reducible repeat (first | refine blk_drewN ?_ _ | refine blk_drew ?_ | refine blk_alloc ?_ _)); refine blk_put (cs := #[.int .i64 x195000_3, .int .i64 x195001_3, .int .i64 x195002_3]) ?_ 0 _ rfl; (with_reducible repeat (first | refine blk_drewN ?_ _ | refine blk_drew ?_ | refine blk_alloc ?_ _)); exact BK194.out) Tryd.underlying33 rfl (by kernel_rfl)) rfl ?_
         exact ⟨by first | rfl | (simp [errW_none, errW_some] <;> rfl) | (exfalso; simp_all; done) | (simp [*, errW_none, errW_some] <;> rfl), by repeat (first | (with_reducible first | exact HB.out | apply below_alloc | apply pw_below_drewN | apply below_drew1 | refine below_set ?_ GE192.out | refine below_set ?_ GE193.out | refine below_set ?_ GE194.out | refine below_set ?_ GE195.out) | exact HB.out)⟩

end Go.Proofs.YtmofdacfijobdaaDoor.EValueSays
