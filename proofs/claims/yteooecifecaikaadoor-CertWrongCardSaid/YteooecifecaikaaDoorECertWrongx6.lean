/- The functions that the law comes to, as plain functions, and for each a proof that the Go code comes to just these answers. Written by a program of this claim. Conditions: each theorem bears its own. -/
import Derived.Test.YteooecifecaikaaDoorECertWrongx0
import Derived.Test.YteooecifecaikaaDoorECertWrongx4
import Derived.Test.YteooecifecaikaaDoorECertWrongx5
namespace Go.Proofs.YteooecifecaikaaDoor.ECertWrong
open Go.RowKit Go.Proofs.YteooecifecaikaaDoorW.PrintWords Go.Proofs.YteooecifecaikaaDoorW.PrintLast Go.Proofs.YteooecifecaikaaDoorW.PrintMore Go.Proofs.YteooecifecaikaaDoorW.PrintOpen
attribute [local go_sem] max2_int min2_int max_two min_two max_three min_three max_four min_four   -- for this text's walks alone
set_option linter.unusedVariables false
set_option linter.unusedSimpArgs false

/-! ### bound_Rate: function 39 -/
def bound_Rate.l0 : Nat → Int → Int → List (S47) → List Int → Int → Option (Int × Int × Bool)
 | 0, _, _, _, _, _ => none
 | k + 1, x7, x8, x226000, x226001, x226002 => if x8 < (x226000.length : Int) then (if 0 ≤ x8 then (if ((rd_T47 x226000 x8).f1) > 0 then (if ((rd_T47 x226000 x8).f0) > 0 then (if x7 < 0 then (bound_Rate.l0 k x8 (wrap64 (x8 + 1)) x226000 x226001 x226002) else (if 0 ≤ x7 then (if x7 < (x226000.length : Int) then ((lots_Cheaper.f k ((rd_T47 x226000 x8).f0) ((rd_T47 x226000 x8).f1) ((rd_T47 x226000 x8).f2) ((rd_T47 x226000 x8).f3) ((rd_T47 x226000 x7).f0) ((rd_T47 x226000 x7).f1) ((rd_T47 x226000 x7).f2) ((rd_T47 x226000 x7).f3)).bind fun t230 => (if t230 = true then (bound_Rate.l0 k x8 (wrap64 (x8 + 1)) x226000 x226001 x226002) else (bound_Rate.l0 k x7 (wrap64 (x8 + 1)) x226000 x226001 x226002))) else (none)) else (none))) else (bound_Rate.l0 k x7 (wrap64 (x8 + 1)) x226000 x226001 x226002)) else (bound_Rate.l0 k x7 (wrap64 (x8 + 1)) x226000 x226001 x226002)) else (none)) else (if x7 < 0 then (some (0, 0, false)) else (if 0 ≤ x7 then (if x7 < (x226000.length : Int) then (some ((rd_T47 x226000 x7).f2, (rd_T47 x226000 x7).f1, true)) else (none)) else (none)))
def bound_Rate.f (k : Nat) (l0_0 : List (S47)) (l0_1 : List Int) (a0_2 : Int) (a1 : Int) : Option (Int × Int × Bool) := (bound_is.f l0_0 l0_1 a0_2 a1).bind fun t226 => (if t226 = true then (bound_Rate.l0 k (-1) a1 l0_0 l0_1 a0_2) else (some (0, 0, false)))
theorem bound_Rate.mono_l : ∀ k, (∀ y0 y1 y2 y3 y4, LeO (bound_Rate.l0 k y0 y1 y2 y3 y4) (bound_Rate.l0 (k + 1) y0 y1 y2 y3 y4))
 | 0 => fun _ _ _ _ _ r h => by simp [bound_Rate.l0] at h
 | k + 1 => by
  have ih0 := bound_Rate.mono_l k
  ·
   intro y0 y1 y2 y3 y4
   unfold bound_Rate.l0
   repeat' first
   | (with_reducible exact ih0 _ _ _ _ _)
   | (with_reducible exact lots_Cheaper.mono _ _ _ _ _ _ _ _ _)
   | (with_reducible exact LeO.refl _)
   | (with_reducible exact LeO.none _)
   | (with_reducible refine LeO.ite ?_ ?_)
   | (with_reducible refine LeO.bind ?_ (fun _ => ?_))
   | exact ih0 _ _ _ _ _
   | exact lots_Cheaper.mono _ _ _ _ _ _ _ _ _
   | exact LeO.none _
   | refine LeO.ite ?_ ?_
   | refine LeO.bind ?_ (fun _ => ?_)
theorem bound_Rate.mono : ∀ a0 a1 a2 a3 k, LeO (bound_Rate.f k a0 a1 a2 a3) (bound_Rate.f (k + 1) a0 a1 a2 a3) := by
 intro a0 a1 a2 a3 k
 have ih0 := bound_Rate.mono_l k
 unfold bound_Rate.f
 repeat' first
   | (with_reducible exact ih0 _ _ _ _ _)
   | (with_reducible exact lots_Cheaper.mono _ _ _ _ _ _ _ _ _)
   | (with_reducible exact LeO.refl _)
   | (with_reducible exact LeO.none _)
   | (with_reducible refine LeO.ite ?_ ?_)
   | (with_reducible refine LeO.bind ?_ (fun _ => ?_))
   | exact ih0 _ _ _ _ _
   | exact lots_Cheaper.mono _ _ _ _ _ _ _ _ _
   | exact LeO.none _
   | refine LeO.ite ?_ ?_
   | refine LeO.bind ?_ (fun _ => ?_)
def bound_Rate.T8 : Bool × List (List Nat × List Nat) := (true, [([], []), ([0], [0]), ([1], [1]), ([2], [2]), ([3], [3]), ([4, 3], [3, 4]), ([5, 3], [3, 5]), ([3, 6], [3, 6]), ([7, 3], [7]), ([8], [8]), ([9, 8], [8, 9]), ([10, 8, 8], [8, 10]), ([11], [11]), ([11], [11]), ([13, 11], [11, 13]), ([11], [11]), ([14, 15, 11], [11, 14, 15]), ([16, 11], [11, 16]), ([12, 17, 11, 11], [11, 12, 17]), ([11, 18, 8], [8, 11, 18]), ([8, 19], [8, 19])])
def bound_Rate.B8 : List Nat := [0, 1, 3, 7, 15, 31, 63, 127, 255, 511, 1023, 2047, 4095, 4095, 12287, 4095, 61439, 126975, 262143, 524287, 1048575]
theorem bound_Rate.tab8 : rtab .any (opsOf Tryd.f39 8) = bound_Rate.T8 := by kernel_rfl
theorem bound_Rate.bits8 : waitsOk bound_Rate.T8.2 bound_Rate.B8 = true := by kernel_rfl
def bound_Rate.T12 : Bool × List (List Nat × List Nat) := (true, [([], []), ([0], [0]), ([], []), ([1, 2], [1, 2]), ([3], [3]), ([4], [4]), ([], []), ([6], [6]), ([], []), ([7, 8], [7, 8]), ([9], [9]), ([10], [10]), ([5, 0, 1, 2, 3, 4, 5], [5]), ([11, 12, 0, 1, 2, 3, 4, 5, 6, 7, 8, 9, 10, 11, 12], [11]), ([13, 0, 1, 2, 3, 4, 5, 6, 7, 8, 9, 10, 11, 12, 13], [])])
def bound_Rate.B12 : List Nat := [0, 1, 0, 7, 15, 31, 0, 64, 0, 448, 960, 1984, 63, 8191, 16383]
theorem bound_Rate.tab12 : rtab .any (opsOf Tryd.f39 12) = bound_Rate.T12 := by kernel_rfl
theorem bound_Rate.bits12 : waitsOk bound_Rate.T12.2 bound_Rate.B12 = true := by kernel_rfl
theorem z4f_q1 {α : Type} {l : List α} {i : Nat} {a : α} : l.toArray.setIfInBounds i a = (l.set i a).toArray := List.setIfInBounds_toArray ..
theorem z4f_q2 {α : Type} {x : α} {l : List α} {a : α} : (x :: l).set 0 a = a :: l := rfl
theorem z4f_q3 {α : Type} {x : α} {l : List α} {n : Nat} {a : α} : (x :: l).set n.succ a = x :: l.set n a := rfl
theorem z4f_u {P : Program} {ops : Array Oper} {Q : Exit → Act → World → Prop} {md : Region.Mode} {S : World → Prop} {ds : List Nat} {T : Bool × List (List Nat × List Nat)} (i N : Nat) (l' : Array Bool) (hT : Aside0 (rtab md ops = T)) {oi : Oper} {v : Value} {fuel : Nat} {l : Array Bool} {a : Act} {w : World} (hi : ops[i]? = some oi) (hN : oi.dst = some N) (hc : anyT T l.toList l'.toList i = true)
  (hQ : ∀ c a w, Q (.panic c) (a.put oi.dst v) w → Q (.panic c) a w) (hy : Yields P ops oi v a) {a' : Act} (ha : a.put (some N) v = a')
  (h : wpAnyLast P md ops Q S ds fuel l' a' w) : wpAnyLast P md ops Q S ds (fuel + 1) l a w := pure_ l' hi hN (any_of hT.out hc) hQ hy ha h
abbrev z4f_m0 : Array Bool := (fun o i : Bool => #[o,o,o,o,o,o,o,o,o,o,o,o,o,o,o,o,o,o,o,o,o]) false true
abbrev z4f_m1 : Array Bool := (fun o i : Bool => #[i,o,o,o,o,o,o,o,o,o,o,o,o,o,o,o,o,o,o,o,o]) false true
abbrev z4f_m2 : Array Bool := (fun o i : Bool => #[i,i,o,o,o,o,o,o,o,o,o,o,o,o,o,o,o,o,o,o,o]) false true
abbrev z4f_m3 : Array Bool := (fun o i : Bool => #[i,i,i,o,o,o,o,o,o,o,o,o,o,o,o,o,o,o,o,o,o]) false true
abbrev z4f_m4 : Array Bool := (fun o i : Bool => #[i,i,i,i,o,o,o,o,o,o,o,o,o,o,o,o,o,o,o,o,o]) false true
abbrev z4f_m5 : Array Bool := (fun o i : Bool => #[i,i,i,i,i,o,o,o,o,o,o,o,o,o,o,o,o,o,o,o,o]) false true
abbrev z4f_m6 : Array Bool := (fun o i : Bool => #[i,i,i,i,i,i,o,o,o,o,o,o,o,o,o,o,o,o,o,o,o]) false true
abbrev z4f_m7 : Array Bool := (fun o i : Bool => #[i,i,i,i,i,i,i,o,o,o,o,o,o,o,o,o,o,o,o,o,o]) false true
abbrev z4f_m8 : Array Bool := (fun o i : Bool => #[i,i,i,i,i,i,i,i,o,o,o,o,o,o,o,o,o,o,o,o,o]) false true
abbrev z4f_m9 : Array Bool := (fun o i : Bool => #[i,i,i,i,i,i,i,i,i,o,o,o,o,o,o,o,o,o,o,o,o]) false true
abbrev z4f_m10 : Array Bool := (fun o i : Bool => #[i,i,i,i,i,i,i,i,i,i,o,o,o,o,o,o,o,o,o,o,o]) false true
abbrev z4f_m11 : Array Bool := (fun o i : Bool => #[i,i,i,i,i,i,i,i,i,i,i,o,o,o,o,o,o,o,o,o,o]) false true
abbrev z4f_m12 : Array Bool := (fun o i : Bool => #[i,i,i,i,i,i,i,i,i,i,i,i,o,o,o,o,o,o,o,o,o]) false true
abbrev z4f_m13 : Array Bool := (fun o i : Bool => #[i,i,i,i,i,i,i,i,i,i,i,i,i,o,o,o,o,o,o,o,o]) false true
abbrev z4f_m14 : Array Bool := (fun o i : Bool => #[i,i,i,i,i,i,i,i,i,i,i,i,i,i,o,o,o,o,o,o,o]) false true
abbrev z4f_m15 : Array Bool := (fun o i : Bool => #[i,i,i,i,i,i,i,i,i,i,i,i,i,i,i,o,o,o,o,o,o]) false true
abbrev z4f_m16 : Array Bool := (fun o i : Bool => #[i,i,i,i,i,i,i,i,i,i,i,i,i,i,i,i,o,o,o,o,o]) false true
abbrev z4f_m17 : Array Bool := (fun o i : Bool => #[i,i,i,i,i,i,i,i,i,i,i,i,i,i,i,i,i,o,o,o,o]) false true
abbrev z4f_m18 : Array Bool := (fun o i : Bool => #[i,i,i,i,i,i,i,i,i,i,i,i,i,i,i,i,i,i,o,o,o]) false true
abbrev z4f_m19 : Array Bool := (fun o i : Bool => #[i,i,i,i,i,i,i,i,i,i,i,i,i,i,i,i,i,i,i,o,o]) false true
abbrev z4f_m20 : Array Bool := (fun o i : Bool => #[i,i,i,i,i,i,i,i,i,i,i,i,i,i,i,i,i,i,i,i,o]) false true
abbrev z4f_m21 : Array Bool := (fun o i : Bool => #[i,i,i,i,i,i,i,i,i,i,i,i,i,i,i,i,i,i,i,i,i]) false true
abbrev z4f_m22 : Array Bool := (fun o i : Bool => #[i,i,i,i,i,i,i,i,i,i,i,i,o,i,o,o,o,o,o,o,o]) false true
abbrev z4f_m23 : Array Bool := (fun o i : Bool => #[i,i,i,i,i,i,i,i,i,i,i,i,o,i,o,i,o,o,o,o,o]) false true
abbrev z4f_m24 : Array Bool := (fun o i : Bool => #[i,i,i,i,i,i,i,i,i,i,i,i,i,i,o,i,o,o,o,o,o]) false true
abbrev z4f_m25 : Array Bool := (fun o i : Bool => #[o,o,o,o,o,o,o,o,o,o,o,o,o,o,o]) false true
abbrev z4f_m26 : Array Bool := (fun o i : Bool => #[i,o,o,o,o,o,o,o,o,o,o,o,o,o,o]) false true
abbrev z4f_m27 : Array Bool := (fun o i : Bool => #[i,o,i,o,o,o,o,o,o,o,o,o,o,o,o]) false true
abbrev z4f_m28 : Array Bool := (fun o i : Bool => #[i,o,i,o,o,o,i,o,o,o,o,o,o,o,o]) false true
abbrev z4f_m29 : Array Bool := (fun o i : Bool => #[i,o,i,o,o,o,i,o,i,o,o,o,o,o,o]) false true
abbrev z4f_m30 : Array Bool := (fun o i : Bool => #[i,i,i,o,o,o,i,o,i,o,o,o,o,o,o]) false true
abbrev z4f_m31 : Array Bool := (fun o i : Bool => #[i,i,i,i,o,o,i,o,i,o,o,o,o,o,o]) false true
abbrev z4f_m32 : Array Bool := (fun o i : Bool => #[i,i,i,i,i,o,i,o,i,o,o,o,o,o,o]) false true
abbrev z4f_m33 : Array Bool := (fun o i : Bool => #[i,i,i,i,i,i,i,o,i,o,o,o,o,o,o]) false true
abbrev z4f_m34 : Array Bool := (fun o i : Bool => #[i,i,i,i,i,i,i,o,i,o,o,o,i,o,o]) false true
abbrev z4f_m35 : Array Bool := (fun o i : Bool => #[i,i,i,i,i,i,i,i,i,o,o,o,i,o,o]) false true
abbrev z4f_m36 : Array Bool := (fun o i : Bool => #[i,i,i,i,i,i,i,i,i,i,o,o,i,o,o]) false true
abbrev z4f_m37 : Array Bool := (fun o i : Bool => #[i,i,i,i,i,i,i,i,i,i,i,o,i,o,o]) false true
abbrev z4f_m38 : Array Bool := (fun o i : Bool => #[i,i,i,i,i,i,i,i,i,i,i,i,i,o,o]) false true
abbrev z4f_m39 : Array Bool := (fun o i : Bool => #[i,i,i,i,i,i,i,i,i,i,i,i,i,i,o]) false true
abbrev z4f_m40 : Array Bool := (fun o i : Bool => #[i,i,i,i,i,i,i,i,i,i,i,i,i,i,i]) false true
set_option maxHeartbeats 8000000 in
set_option maxRecDepth 100000 in
theorem bound_Rate.calls [Inhabited (Int → Addr)] (k : Nat) (A0_0 : Option Addr) (c0_0 : Nat) (l0_0 : List (S47)) (A0_1 : Option Addr) (c0_1 : Nat) (l0_1 : List Int) (a0_2 : Int) (a1 : Int) (r1 : Int) (r2 : Int) (r3 : Bool) (w : World) (hG : GlobOK w) (hr0_0 : Kd.C k47 w A0_0 l0_0.length l0_0) (hc0_0 : l0_0.length ≤ c0_0) (hr0_1 : Kd.C (Kd.int .i64) w A0_1 l0_1.length l0_1) (hc0_1 : l0_1.length ≤ c0_1) (h : bound_Rate.f k l0_0 l0_1 a0_2 a1 = some (r1, r2, r3)) :
  Calls Tryd.prog 39 #[.agg #[.slice A0_0 l0_0.length c0_0, .slice A0_1 l0_1.length c0_1, .int .i64 a0_2], .int .i64 a1] w fun e w' => e = .returned (.tuple #[.int .i64 r1, .int .i64 r2, .bool r3]) ∧ Below w.heap.size w w' := by
 have hu25 := Tryd.underlying25
 have hu47 := Tryd.underlying47
 have HG := Aside0.mk hG
 clear hG
 have HR0_0 := Aside0.mk hr0_0
 have HC0_0 := Aside0.mk hc0_0
 clear hr0_0 hc0_0
 have HR0_1 := Aside0.mk hr0_1
 have HC0_1 := Aside0.mk hc0_1
 clear hr0_1 hc0_1
 have HB := Aside0.mk (Below.refl w.heap.size w)
 have H : ((bound_is.f l0_0 l0_1 a0_2 a1).bind fun t226 => (if t226 = true then (bound_Rate.l0 k (-1) a1 l0_0 l0_1 a0_2) else (some (0, 0, false)))) = some (r1, r2, r3) := h
 clear h
 replace H := Option.bind_eq_some_iff.mp H
 obtain ⟨t226, A30, H⟩ := H
 replace H : (if t226 = true then (bound_Rate.l0 k (-1) a1 l0_0 l0_1 a0_2) else (some (0, 0, false))) = some (r1, r2, r3) := H
 have A3 := Aside0.mk A30
 clear A30
 by_cases c4 : t226 = true
 ·
  subst c4
  have H1 : (bound_Rate.l0 k (-1) a1 l0_0 l0_1 a0_2) = some (r1, r2, r3) := by rw [if_pos rfl] at H; exact H
  clear H
  have H := H1
  clear H1
  have H' := Aside0.mk H
  clear H
  go_enter Tryd.func39, Tryd.ntmps39
  go_wp2_with (first | ((with_reducible refine gate_dst (N := 2) rfl ?_); refine box_event ?hg (N := 2) ?hd (cs := #[.slice A0_0 l0_0.length c0_0, .slice A0_1 l0_1.length c0_1, .int .i64 a0_2]) (t := 25) ?hr ?_; (case hd => rfl); (case hg => rfl); (case hr => first | (go_simp; done) | (go_simp; rfl)); intro gb225 hg w5 hbox hb; have n0_ := Aside0.mk (below_step (by repeat (first | (with_reducible first | exact HB.out | apply below_alloc | apply pw_below_drewN | apply below_drew1) | exact HB.out)) hb); have n1_ := Aside0.mk (hbox); have n2_ := Aside0.mk ((by rw [hg]; exact (below_size (by repeat (first | (with_reducible first | exact HB.out | apply below_alloc | apply pw_below_drewN | apply below_drew1) | exact HB.out))) : w.heap.size ≤ gb225)); have n3_ := Aside0.mk ((by rw [hg]; exact (below_size (by repeat (first | (with_reducible first | exact HB.out | apply below_alloc | apply pw_below_drewN | apply below_drew1) | exact HB.out))) : w.heap.size ≤ gb225)); clear HB; have HB := n0_; have BK225 := n1_; have GW225 := n2_; have GE225 := n3_; clear n0_ n1_ n2_ n3_; clear hb hbox hg; have hcz6_0 : w5.cell? ⟨gb225, 0, none⟩ = some (.slice A0_0 l0_0.length c0_0) := (blk_cell BK225.out 0).trans rfl; have hcz6_1 : w5.cell? ⟨gb225, 1, none⟩ = some (.slice A0_1 l0_1.length c0_1) := (blk_cell BK225.out 1).trans rfl; have hcz6_2 : w5.cell? ⟨gb225, 2, none⟩ = some (.int .i64 a0_2) := (blk_cell BK225.out 2).trans rfl; have hfz6_0 := blk_frozen BK225.out 0; have hfz6_1 := blk_frozen BK225.out 1; have hfz6_2 := blk_frozen BK225.out 2) | ((with_reducible refine gate_callee (f := 38) rfl ?_); refine goesL_ (some 12) rfl rfl Tryd.func38 (by kernel_rfl) rfl #[.agg #[.slice A0_0 l0_0.length c0_0, .slice A0_1 l0_1.length c0_1, .int .i64 a0_2], .int .i64 a1] rfl (by (try simp only [List.map_toArray, List.map_cons, List.map_nil]); first | done | rfl | (simp only [List.length_drop, List.length_take]; rfl)) ?_; (with_reducible refine (bound_is.calls _ _ l0_0 _ _ l0_1 a0_2 a1 true _ ?side1 ?side2 ?side3 ?side4 ?side5 A3.out).mono ?_); (case side1 => exact GlobOK.below HG.out (by repeat (first | (with_reducible first | exact HB.out | apply below_alloc | apply pw_below_drewN | apply below_drew1 | refine below_set ?_ GE225.out) | exact HB.out))); (case side2 => repeat (first | exact (Kd.C_below HR0_0.out HB.out) | (with_reducible refine Kd.C_alloc ?_ _) | (with_reducible refine Kd.C_drewN ?_ _) | (with_reducible refine Kd.C_drew ?_))); (case side3 => exact HC0_0.out); (case side4 => repeat (first | exact (Kd.C_below HR0_1.out HB.out) | (with_reducible refine Kd.C_alloc ?_ _) | (with_reducible refine Kd.C_drewN ?_ _) | (with_reducible refine Kd.C_drew ?_))); (case side5 => exact HC0_1.out); rintro e w7 ⟨rfl, hb⟩; refine ⟨_, rfl, ?_⟩; have n0_ := Aside0.mk (blk_below (g := gb225) (o := .cells #[.slice A0_0 l0_0.length c0_0, .slice A0_1 l0_1.length c0_1, .int .i64 a0_2] 25 (0, 0)) (by (with_reducible repeat (first | refine blk_drewN ?_ _ | refine blk_drew ?_ | refine blk_alloc ?_ _)); exact BK225.out) hb); have n1_ := Aside0.mk (below_step (by repeat (first | (with_reducible first | exact HB.out | apply below_alloc | apply pw_below_drewN | apply below_drew1 | refine below_set ?_ GE225.out) | exact HB.out)) hb); clear BK225; clear HB; have BK225 := n0_; have HB := n1_; clear n0_ n1_; (try clear hb); (try clear hb2); (try clear hk); (try clear hi)))
  go_loopg [7, 8] k (fun kq v7 v8 w' => ∃ (x7_1 : Int) (x8_1 : Int), v7 = .int .i64 x7_1 ∧ v8 = .int .i64 x8_1 ∧ Aside0 (bound_Rate.l0 kq x7_1 x8_1 l0_0 l0_1 a0_2 = some (r1, r2, r3)) ∧ Aside0 (kq ≤ k) ∧ Aside0 (w'.heap[gb225]? = some (.cells #[(.slice A0_0 l0_0.length c0_0), (.slice A0_1 l0_1.length c0_1), .int .i64 a0_2] 25 (0, 0))) ∧ Aside0 (Below w.heap.size w w'))
  case atStart => exact ⟨((-1)), (a1), (by first | rfl | (simp; done) | (simp [*]; done) | (simp [wrap64]; done) | (simp [wrap64]; omega)), (by first | rfl | (simp; done) | (simp [*]; done) | (simp [wrap64]; done) | (simp [wrap64]; omega)), H', ⟨Nat.le_refl _⟩, ⟨by (with_reducible repeat (first | refine blk_drewN ?_ _ | refine blk_drew ?_ | refine blk_alloc ?_ _)); exact BK225.out⟩, ⟨by repeat (first | (with_reducible first | exact HB.out | apply below_alloc | apply pw_below_drewN | apply below_drew1 | refine below_set ?_ GE225.out) | exact HB.out)⟩⟩
  case round =>
   clear H'
   try clear p2
   try clear c3
   try clear c4
   try clear hcz6_0
   try clear hcz6_1
   try clear hcz6_2
   try clear hfz6_0
   try clear hfz6_1
   try clear hfz6_2
   obtain ⟨x7_1, x8_1, rfl, rfl, HA, HK1, BK225, HB⟩ := hrel
   cases gk with
   | zero => exact absurd HA.out (by simp [bound_Rate.l0])
   | succ k1 =>
    have H := HA.out
    clear HA
    simp only [bound_Rate.l0] at H
    by_cases c8 : x8_1 < (l0_0.length : Int)
    ·
     rw [if_pos c8] at H
     have c8b0 : decide (x8_1 < (l0_0.length : Int)) = true := decide_eq_true c8
     clear c8
     by_cases c9 : 0 ≤ x8_1
     ·
      rw [if_pos c9] at H
      have c9b0 : decide (0 ≤ x8_1) = true := decide_eq_true c9
      clear c9
      by_cases c10 : ((rd_T47 l0_0 x8_1).f1) > 0
      ·
       rw [if_pos c10] at H
       have c10b0 : decide (0 < ((rd_T47 l0_0 x8_1).f1)) = true := decide_eq_true c10
       clear c10
       by_cases c11 : ((rd_T47 l0_0 x8_1).f0) > 0
       ·
        rw [if_pos c11] at H
        have c11b0 : decide (0 < ((rd_T47 l0_0 x8_1).f0)) = true := decide_eq_true c11
        clear c11
        by_cases c12 : x7_1 < 0
        ·
         rw [if_pos c12] at H
         have c12b0 : decide (x7_1 < 0) = true := decide_eq_true c12
         clear c12
         have H' := Aside0.mk H
         clear H
         have hcz13_0 : wr.cell? ⟨gb225, 0, none⟩ = some (.slice A0_0 l0_0.length c0_0) := (blk_cell BK225.out 0).trans rfl
         have hcz13_1 : wr.cell? ⟨gb225, 1, none⟩ = some (.slice A0_1 l0_1.length c0_1) := (blk_cell BK225.out 1).trans rfl
         have hcz13_2 : wr.cell? ⟨gb225, 2, none⟩ = some (.int .i64 a0_2) := (blk_cell BK225.out 2).trans rfl
         have hfz13_0 := blk_frozen BK225.out 0
         have hfz13_1 := blk_frozen BK225.out 1
         have hfz13_2 := blk_frozen BK225.out 2
         have p227 : 0 ≤ (x8_1 : Int) := of_decide_eq_true (by first | (with_reducible assumption) | assumption)
         have q227 : x8_1 < (l0_0.length : Int) := of_decide_eq_true (by first | (with_reducible assumption) | assumption)
         obtain ⟨ad227, e227, hx227_0, hx227_1, hx227_2, hx227_3⟩ := at_T47 HR0_0.out x8_1 p227 q227
         cases e227
         replace hx227_0 := (HB.out.cell (World.block_lt_of_cell? w _ hx227_0)).trans hx227_0
         replace hx227_1 := (HB.out.cell (World.block_lt_of_cell? w _ hx227_1)).trans hx227_1
         replace hx227_2 := (HB.out.cell (World.block_lt_of_cell? w _ hx227_2)).trans hx227_2
         replace hx227_3 := (HB.out.cell (World.block_lt_of_cell? w _ hx227_3)).trans hx227_3
         replace p227 := eq_true p227
         replace q227 := eq_true q227
         try go_wp2_with (first | ((with_reducible refine gate_dst (N := 9) rfl ?_); refine box_event ?hg (N := 9) ?hd (cs := #[.int .i64 0, .int .i64 0, .int .i64 0, .int .i64 0]) (t := 47) ?hr ?_; (case hd => rfl); (case hg => rfl); (case hr => first | (go_simp; done) | (go_simp; rfl)); intro gb228 hg w14 hbox hb; have n0_ := Aside0.mk (blk_below (g := gb225) (o := .cells #[.slice (some ad227) l0_0.length c0_0, .slice A0_1 l0_1.length c0_1, .int .i64 a0_2] 25 (0, 0)) (by (with_reducible repeat (first | refine blk_drewN ?_ _ | refine blk_drew ?_ | refine blk_alloc ?_ _)); exact BK225.out) hb); have n1_ := Aside0.mk (below_step (by repeat (first | (with_reducible first | exact HB.out | apply below_alloc | apply pw_below_drewN | apply below_drew1 | refine below_set ?_ GE225.out) | exact HB.out)) hb); have n2_ := Aside0.mk (hbox); have n3_ := Aside0.mk ((by rw [hg]; exact (below_size (by repeat (first | (with_reducible first | exact HB.out | apply below_alloc | apply pw_below_drewN | apply below_drew1 | refine below_set ?_ GE225.out) | exact HB.out))) : w.heap.size ≤ gb228)); have n4_ := Aside0.mk ((by rw [hg]; exact (below_size (by repeat (first | (with_reducible first | exact HB.out | apply below_alloc | apply pw_below_drewN | apply below_drew1 | refine below_set ?_ GE225.out) | exact HB.out))) : w.heap.size ≤ gb228)); have n5_ := Aside0.mk ((by rw [hg]; exact Nat.ne_of_lt (blk_lt (g := gb225) (o := .cells #[.slice (some ad227) l0_0.length c0_0, .slice A0_1 l0_1.length c0_1, .int .i64 a0_2] 25 (0, 0)) (by (with_reducible repeat (first | refine blk_drewN ?_ _ | refine blk_drew ?_ | refine blk_alloc ?_ _)); exact BK225.out)) : gb225 ≠ gb228)); have n6_ := Aside0.mk ((by rw [hg]; exact Nat.ne_of_gt (blk_lt (g := gb225) (o := .cells #[.slice (some ad227) l0_0.length c0_0, .slice A0_1 l0_1.length c0_1, .int .i64 a0_2] 25 (0, 0)) (by (with_reducible repeat (first | refine blk_drewN ?_ _ | refine blk_drew ?_ | refine blk_alloc ?_ _)); exact BK225.out)) : gb228 ≠ gb225)); clear BK225; clear HB; have BK225 := n0_; have HB := n1_; have BK228 := n2_; have GW228 := n3_; have GE228 := n4_; have NB225_228 := n5_; have NB228_225 := n6_; clear n0_ n1_ n2_ n3_ n4_ n5_ n6_; clear hb hbox hg; have hnb15 := NB228_225.out; have hnc15 := NB225_228.out; have hcz16_0 : w14.cell? ⟨gb228, 0, none⟩ = some (.int .i64 0) := (blk_cell BK228.out 0).trans rfl; have hcz16_1 : w14.cell? ⟨gb228, 1, none⟩ = some (.int .i64 0) := (blk_cell BK228.out 1).trans rfl; have hcz16_2 : w14.cell? ⟨gb228, 2, none⟩ = some (.int .i64 0) := (blk_cell BK228.out 2).trans rfl; have hcz16_3 : w14.cell? ⟨gb228, 3, none⟩ = some (.int .i64 0) := (blk_cell BK228.out 3).trans rfl; have hfz16_0 := blk_frozen BK228.out 0; have hfz16_1 := blk_frozen BK228.out 1; have hfz16_2 := blk_frozen BK228.out 2; have hfz16_3 := blk_frozen BK228.out 3))
         have n0_ : Aside0 (((((w14.setCell ⟨gb228, 0, none⟩ (.int .i64 ((rd_T47 l0_0 x8_1).f0))).setCell ⟨gb228, 1, none⟩ (.int .i64 ((rd_T47 l0_0 x8_1).f1))).setCell ⟨gb228, 2, none⟩ (.int .i64 ((rd_T47 l0_0 x8_1).f2))).setCell ⟨gb228, 3, none⟩ (.int .i64 ((rd_T47 l0_0 x8_1).f3))).heap[gb225]? = some (.cells #[.slice (some ad227) l0_0.length c0_0, .slice A0_1 l0_1.length c0_1, .int .i64 a0_2] 25 (0, 0))) := ⟨by (with_reducible repeat (first | refine blk_drewN ?_ _ | refine blk_drew ?_ | refine blk_alloc ?_ _ | refine blk_far ?_ NB225_228.out _)); exact BK225.out⟩
         have n1_ : Aside0 (((((w14.setCell ⟨gb228, 0, none⟩ (.int .i64 ((rd_T47 l0_0 x8_1).f0))).setCell ⟨gb228, 1, none⟩ (.int .i64 ((rd_T47 l0_0 x8_1).f1))).setCell ⟨gb228, 2, none⟩ (.int .i64 ((rd_T47 l0_0 x8_1).f2))).setCell ⟨gb228, 3, none⟩ (.int .i64 ((rd_T47 l0_0 x8_1).f3))).heap[gb228]? = some (.cells #[.int .i64 ((rd_T47 l0_0 x8_1).f0), .int .i64 ((rd_T47 l0_0 x8_1).f1), .int .i64 ((rd_T47 l0_0 x8_1).f2), .int .i64 ((rd_T47 l0_0 x8_1).f3)] 47 (0, 0))) := ⟨by (with_reducible repeat (first | refine blk_drewN ?_ _ | refine blk_drew ?_ | refine blk_alloc ?_ _)); refine blk_put (cs := #[.int .i64 ((rd_T47 l0_0 x8_1).f0), .int .i64 ((rd_T47 l0_0 x8_1).f1), .int .i64 ((rd_T47 l0_0 x8_1).f2), .int .i64 0]) ?_ 3 _ rfl; (with_reducible repeat (first | refine blk_drewN ?_ _ | refine blk_drew ?_ | refine blk_alloc ?_ _)); refine blk_put (cs := #[.int .i64 ((rd_T47 l0_0 x8_1).f0), .int .i64 ((rd_T47 l0_0 x8_1).f1), .int .i64 0, .int .i64 0]) ?_ 2 _ rfl; (with_reducible repeat (first | refine blk_drewN ?_ _ | refine blk_drew ?_ | refine blk_alloc ?_ _)); refine blk_put (cs := #[.int .i64 ((rd_T47 l0_0 x8_1).f0), .int .i64 0, .int .i64 0, .int .i64 0]) ?_ 1 _ rfl; (with_reducible repeat (first | refine blk_drewN ?_ _ | refine blk_drew ?_ | refine blk_alloc ?_ _)); refine blk_put (cs := #[.int .i64 0, .int .i64 0, .int .i64 0, .int .i64 0]) ?_ 0 _ rfl; (with_reducible repeat (first | refine blk_drewN ?_ _ | refine blk_drew ?_ | refine blk_alloc ?_ _)); exact BK228.out⟩
         have n2_ : Aside0 (Below w.heap.size w ((((w14.setCell ⟨gb228, 0, none⟩ (.int .i64 ((rd_T47 l0_0 x8_1).f0))).setCell ⟨gb228, 1, none⟩ (.int .i64 ((rd_T47 l0_0 x8_1).f1))).setCell ⟨gb228, 2, none⟩ (.int .i64 ((rd_T47 l0_0 x8_1).f2))).setCell ⟨gb228, 3, none⟩ (.int .i64 ((rd_T47 l0_0 x8_1).f3)))) := ⟨by repeat (first | (with_reducible first | exact HB.out | apply below_alloc | apply pw_below_drewN | apply below_drew1 | refine below_set ?_ GE225.out | refine below_set ?_ GE228.out) | exact HB.out)⟩
         (try clear BK225)
         (try clear BK228)
         (try clear HB)
         generalize ((((w14.setCell ⟨gb228, 0, none⟩ (.int .i64 ((rd_T47 l0_0 x8_1).f0))).setCell ⟨gb228, 1, none⟩ (.int .i64 ((rd_T47 l0_0 x8_1).f1))).setCell ⟨gb228, 2, none⟩ (.int .i64 ((rd_T47 l0_0 x8_1).f2))).setCell ⟨gb228, 3, none⟩ (.int .i64 ((rd_T47 l0_0 x8_1).f3))) = w17 at n0_ n1_ n2_ ⊢
         have BK225 := n0_
         have BK228 := n1_
         have HB := n2_
         clear n0_ n1_ n2_
         have n0_ := Aside0.mk (blk_drew BK225.out)
         have n1_ := Aside0.mk (blk_drew BK228.out)
         have n2_ := Aside0.mk (below_drew1 HB.out)
         clear BK225
         clear BK228
         clear HB
         have BK225 := n0_
         have BK228 := n1_
         have HB := n2_
         clear n0_ n1_ n2_
         refine start_ (n := 21) (S := fun w' => w'.cell? ⟨gb228, 0, none⟩ = some (.int .i64 ((rd_T47 l0_0 x8_1).f0)) ∧ w'.cell? ⟨gb228, 1, none⟩ = some (.int .i64 ((rd_T47 l0_0 x8_1).f1)) ∧ w'.cell? ⟨gb228, 2, none⟩ = some (.int .i64 ((rd_T47 l0_0 x8_1).f2)) ∧ w'.cell? ⟨gb228, 3, none⟩ = some (.int .i64 ((rd_T47 l0_0 x8_1).f3))) (ds := []) z4f_m0 (by kernel_rfl) rfl rfl ⟨(blk_cell BK228.out 0).trans rfl, (blk_cell BK228.out 1).trans rfl, (blk_cell BK228.out 2).trans rfl, (blk_cell BK228.out 3).trans rfl⟩ (fun hHeld => ?_); refine with_tabW bound_Rate.tab8 bound_Rate.bits8 (fun HT_ HW_ => ?_)
         generalize w17.drew = w18 at BK225 BK228 HB hHeld ⊢
         refine z4f_u 0 27 z4f_m1 HT_ (v := ?_) (a' := ?_) rfl rfl (by kernel_rfl) (fun _ _ _ h => h) (Or.inl ⟨by rfl, ?_⟩) ?_ ?_
         rotate_left
         · intro w'; go_simp; with_reducible rfl
         rotate_left
         · simp only [Act.put, z4f_q1, z4f_q2, z4f_q3, i64_w, i32_w]; rfl
         refine take_ (i := 1) (N := some 28) (v := ?_) (a' := ?_) z4f_m2 rfl rfl (take_ofW HT_.out HW_.out (by kernel_rfl)) (fun _ _ _ h => h) (Or.inl ⟨by rfl, ?_⟩) hHeld ?_ ?_
         rotate_left
         ·
          rintro w' ⟨s0, s1, s2, s3⟩
          go_simp
          with_reducible rfl
         rotate_left
         · simp only [Act.put, z4f_q1, z4f_q2, z4f_q3, i64_w, i32_w]; rfl
         refine z4f_u 2 29 z4f_m3 HT_ (v := ?_) (a' := ?_) rfl rfl (by kernel_rfl) (fun _ _ _ h => h) (Or.inl ⟨by rfl, ?_⟩) ?_ ?_
         rotate_left
         · intro w'; go_simp; with_reducible rfl
         rotate_left
         · simp only [Act.put, z4f_q1, z4f_q2, z4f_q3, i64_w, i32_w]; rfl
         refine z4f_u 3 30 z4f_m4 HT_ (v := ?_) (a' := ?_) rfl rfl (by kernel_rfl) (fun _ _ _ h => h) (Or.inl ⟨by rfl, ?_⟩) ?_ ?_
         rotate_left
         · intro w'; go_simp; with_reducible rfl
         rotate_left
         · simp only [Act.put, z4f_q1, z4f_q2, z4f_q3, i64_w, i32_w]; rfl
         refine z4f_u 4 31 z4f_m5 HT_ (v := ?_) (a' := ?_) rfl rfl (by kernel_rfl) (fun _ _ _ h => h) (Or.inl ⟨by rfl, ?_⟩) ?_ ?_
         rotate_left
         · intro w'; go_simp; with_reducible rfl
         rotate_left
         · simp only [Act.put, z4f_q1, z4f_q2, z4f_q3, i64_w, i32_w]; rfl
         refine take_ (i := 5) (N := some 32) (v := ?_) (a' := ?_) z4f_m6 rfl rfl (take_ofW HT_.out HW_.out (by kernel_rfl)) (fun _ _ _ h => h) (Or.inl ⟨by rfl, ?_⟩) hHeld ?_ ?_
         rotate_left
         ·
          rintro w' ⟨s0, s1, s2, s3⟩
          go_simp
          with_reducible rfl
         rotate_left
         · simp only [Act.put, z4f_q1, z4f_q2, z4f_q3, i64_w, i32_w]; rfl
         refine z4f_u 6 33 z4f_m7 HT_ (v := ?_) (a' := ?_) rfl rfl (by kernel_rfl) (fun _ _ _ h => h) (Or.inl ⟨by rfl, ?_⟩) ?_ ?_
         rotate_left
         · intro w'; go_simp; with_reducible rfl
         rotate_left
         · simp only [Act.put, z4f_q1, z4f_q2, z4f_q3, i64_w, i32_w]; rfl
         refine z4f_u 7 34 z4f_m8 HT_ (v := ?_) (a' := ?_) rfl rfl (by kernel_rfl) (fun _ _ _ h => h) (Or.inl ⟨by rfl, ?_⟩) ?_ ?_
         rotate_left
         · intro w'; go_simp; with_reducible rfl
         rotate_left
         · simp only [Act.put, z4f_q1, z4f_q2, z4f_q3, i64_w, i32_w]; rfl
         refine z4f_u 8 35 z4f_m9 HT_ (v := ?_) (a' := ?_) rfl rfl (by kernel_rfl) (fun _ _ _ h => h) (Or.inl ⟨by rfl, ?_⟩) ?_ ?_
         rotate_left
         · intro w'; go_simp; with_reducible rfl
         rotate_left
         · simp only [Act.put, z4f_q1, z4f_q2, z4f_q3, i64_w, i32_w]; rfl
         refine z4f_u 9 36 z4f_m10 HT_ (v := ?_) (a' := ?_) rfl rfl (by kernel_rfl) (fun _ _ _ h => h) (Or.inl ⟨by rfl, ?_⟩) ?_ ?_
         rotate_left
         · intro w'; go_simp; with_reducible rfl
         rotate_left
         · simp only [Act.put, z4f_q1, z4f_q2, z4f_q3, i64_w, i32_w]; rfl
         refine z4f_u 10 37 z4f_m11 HT_ (v := ?_) (a' := ?_) rfl rfl (by kernel_rfl) (fun _ _ _ h => h) (Or.inl ⟨by rfl, ?_⟩) ?_ ?_
         rotate_left
         · intro w'; go_simp; with_reducible rfl
         rotate_left
         · simp only [Act.put, z4f_q1, z4f_q2, z4f_q3, i64_w, i32_w]; rfl
         refine z4f_u 11 38 z4f_m12 HT_ (v := ?_) (a' := ?_) rfl rfl (by kernel_rfl) (fun _ _ _ h => h) (Or.inl ⟨by rfl, ?_⟩) ?_ ?_
         rotate_left
         · intro w'; go_simp; with_reducible rfl
         rotate_left
         · simp only [Act.put, z4f_q1, z4f_q2, z4f_q3, i64_w, i32_w]; rfl
         refine z4f_u 12 39 z4f_m13 HT_ (v := undef) (a' := ?_) rfl rfl (by kernel_rfl) (fun _ _ _ h => h) (Or.inr ⟨by rfl, rfl⟩) ?_ ?_
         rotate_left
         · simp only [Act.put, z4f_q1, z4f_q2, z4f_q3, i64_w, i32_w]; rfl
         refine z4f_u 13 40 z4f_m14 HT_ (v := undef) (a' := ?_) rfl rfl (by kernel_rfl) (fun _ _ _ h => h) (Or.inr ⟨by rfl, rfl⟩) ?_ ?_
         rotate_left
         · simp only [Act.put, z4f_q1, z4f_q2, z4f_q3, i64_w, i32_w]; rfl
         refine z4f_u 14 41 z4f_m15 HT_ (v := undef) (a' := ?_) rfl rfl (by kernel_rfl) (fun _ _ _ h => h) (Or.inr ⟨by rfl, rfl⟩) ?_ ?_
         rotate_left
         · simp only [Act.put, z4f_q1, z4f_q2, z4f_q3, i64_w, i32_w]; rfl
         refine z4f_u 15 42 z4f_m16 HT_ (v := undef) (a' := ?_) rfl rfl (by kernel_rfl) (fun _ _ _ h => h) (Or.inr ⟨by rfl, rfl⟩) ?_ ?_
         rotate_left
         · simp only [Act.put, z4f_q1, z4f_q2, z4f_q3, i64_w, i32_w]; rfl
         refine z4f_u 16 43 z4f_m17 HT_ (v := undef) (a' := ?_) rfl rfl (by kernel_rfl) (fun _ _ _ h => h) (Or.inr ⟨by rfl, rfl⟩) ?_ ?_
         rotate_left
         · simp only [Act.put, z4f_q1, z4f_q2, z4f_q3, i64_w, i32_w]; rfl
         refine z4f_u 17 44 z4f_m18 HT_ (v := undef) (a' := ?_) rfl rfl (by kernel_rfl) (fun _ _ _ h => h) (Or.inr ⟨by rfl, rfl⟩) ?_ ?_
         rotate_left
         · simp only [Act.put, z4f_q1, z4f_q2, z4f_q3, i64_w, i32_w]; rfl
         refine z4f_u 18 45 z4f_m19 HT_ (v := undef) (a' := ?_) rfl rfl (by kernel_rfl) (fun _ _ _ h => h) (Or.inr ⟨by rfl, rfl⟩) ?_ ?_
         rotate_left
         · simp only [Act.put, z4f_q1, z4f_q2, z4f_q3, i64_w, i32_w]; rfl
         refine z4f_u 19 46 z4f_m20 HT_ (v := ?_) (a' := ?_) rfl rfl (by kernel_rfl) (fun _ _ _ h => h) (Or.inl ⟨by rfl, ?_⟩) ?_ ?_
         rotate_left
         · intro w'; go_simp; with_reducible rfl
         rotate_left
         · simp only [Act.put, z4f_q1, z4f_q2, z4f_q3, i64_w, i32_w]; rfl
         refine z4f_u 20 47 z4f_m21 HT_ (v := ?_) (a' := ?_) rfl rfl (by kernel_rfl) (fun _ _ _ h => h) (Or.inl ⟨by rfl, ?_⟩) ?_ ?_
         rotate_left
         · intro w'; go_simp; with_reducible rfl
         rotate_left
         · simp only [Act.put, z4f_q1, z4f_q2, z4f_q3, i64_w, i32_w]; rfl
         refine done_ (done_of HT_.out (by kernel_rfl)) ?_
         try go_wp2
         go_roundg k1
         case measure => have := HK1.out; omega
         case rel => exact ⟨(x8_1), (wrap64 (x8_1 + 1)), (by first | rfl | (simp; done) | (simp [*]; done) | (simp [wrap64]; done) | (simp [wrap64]; omega)), (by first | rfl | (simp; done) | (simp [*]; done) | (simp [wrap64]; done) | (simp [wrap64]; omega)), H', ⟨by have := HK1.out; omega⟩, ⟨by (with_reducible repeat (first | refine blk_drewN ?_ _ | refine blk_drew ?_ | refine blk_alloc ?_ _)); exact BK225.out⟩, ⟨by repeat (first | (with_reducible first | exact HB.out | apply below_alloc | apply pw_below_drewN | apply below_drew1 | refine below_set ?_ GE225.out | refine below_set ?_ GE228.out) | exact HB.out)⟩⟩
        ·
         rw [if_neg c12] at H
         have c12b0 : decide (x7_1 < 0) = false := decide_eq_false c12
         clear c12
         by_cases c19 : 0 ≤ x7_1
         ·
          rw [if_pos c19] at H
          have c19b0 : decide (0 ≤ x7_1) = true := decide_eq_true c19
          clear c19
          by_cases c20 : x7_1 < (l0_0.length : Int)
          ·
           rw [if_pos c20] at H
           have c20b0 : decide (x7_1 < (l0_0.length : Int)) = true := decide_eq_true c20
           clear c20
           replace H := Option.bind_eq_some_iff.mp H
           obtain ⟨t230, A210, H⟩ := H
           replace H : (if t230 = true then (bound_Rate.l0 k1 x8_1 (wrap64 (x8_1 + 1)) l0_0 l0_1 a0_2) else (bound_Rate.l0 k1 x7_1 (wrap64 (x8_1 + 1)) l0_0 l0_1 a0_2)) = some (r1, r2, r3) := H
           have A21 := Aside0.mk A210
           clear A210
           by_cases c22 : t230 = true
           ·
            subst c22
            have H1 : (bound_Rate.l0 k1 x8_1 (wrap64 (x8_1 + 1)) l0_0 l0_1 a0_2) = some (r1, r2, r3) := by rw [if_pos rfl] at H; exact H
            clear H
            have H := H1
            clear H1
            have H' := Aside0.mk H
            clear H
            have hcz23_0 : wr.cell? ⟨gb225, 0, none⟩ = some (.slice A0_0 l0_0.length c0_0) := (blk_cell BK225.out 0).trans rfl
            have hcz23_1 : wr.cell? ⟨gb225, 1, none⟩ = some (.slice A0_1 l0_1.length c0_1) := (blk_cell BK225.out 1).trans rfl
            have hcz23_2 : wr.cell? ⟨gb225, 2, none⟩ = some (.int .i64 a0_2) := (blk_cell BK225.out 2).trans rfl
            have hfz23_0 := blk_frozen BK225.out 0
            have hfz23_1 := blk_frozen BK225.out 1
            have hfz23_2 := blk_frozen BK225.out 2
            have p227 : 0 ≤ (x8_1 : Int) := of_decide_eq_true (by first | (with_reducible assumption) | assumption)
            have q227 : x8_1 < (l0_0.length : Int) := of_decide_eq_true (by first | (with_reducible assumption) | assumption)
            obtain ⟨ad227, e227, hx227_0, hx227_1, hx227_2, hx227_3⟩ := at_T47 HR0_0.out x8_1 p227 q227
            cases e227
            replace hx227_0 := (HB.out.cell (World.block_lt_of_cell? w _ hx227_0)).trans hx227_0
            replace hx227_1 := (HB.out.cell (World.block_lt_of_cell? w _ hx227_1)).trans hx227_1
            replace hx227_2 := (HB.out.cell (World.block_lt_of_cell? w _ hx227_2)).trans hx227_2
            replace hx227_3 := (HB.out.cell (World.block_lt_of_cell? w _ hx227_3)).trans hx227_3
            replace p227 := eq_true p227
            replace q227 := eq_true q227
            try go_wp2_with (first | ((with_reducible refine gate_dst (N := 9) rfl ?_); refine box_event ?hg (N := 9) ?hd (cs := #[.int .i64 0, .int .i64 0, .int .i64 0, .int .i64 0]) (t := 47) ?hr ?_; (case hd => rfl); (case hg => rfl); (case hr => first | (go_simp; done) | (go_simp; rfl)); intro gb228 hg w24 hbox hb; have n0_ := Aside0.mk (blk_below (g := gb225) (o := .cells #[.slice (some ad227) l0_0.length c0_0, .slice A0_1 l0_1.length c0_1, .int .i64 a0_2] 25 (0, 0)) (by (with_reducible repeat (first | refine blk_drewN ?_ _ | refine blk_drew ?_ | refine blk_alloc ?_ _)); exact BK225.out) hb); have n1_ := Aside0.mk (below_step (by repeat (first | (with_reducible first | exact HB.out | apply below_alloc | apply pw_below_drewN | apply below_drew1 | refine below_set ?_ GE225.out) | exact HB.out)) hb); have n2_ := Aside0.mk (hbox); have n3_ := Aside0.mk ((by rw [hg]; exact (below_size (by repeat (first | (with_reducible first | exact HB.out | apply below_alloc | apply pw_below_drewN | apply below_drew1 | refine below_set ?_ GE225.out) | exact HB.out))) : w.heap.size ≤ gb228)); have n4_ := Aside0.mk ((by rw [hg]; exact (below_size (by repeat (first | (with_reducible first | exact HB.out | apply below_alloc | apply pw_below_drewN | apply below_drew1 | refine below_set ?_ GE225.out) | exact HB.out))) : w.heap.size ≤ gb228)); have n5_ := Aside0.mk ((by rw [hg]; exact Nat.ne_of_lt (blk_lt (g := gb225) (o := .cells #[.slice (some ad227) l0_0.length c0_0, .slice A0_1 l0_1.length c0_1, .int .i64 a0_2] 25 (0, 0)) (by (with_reducible repeat (first | refine blk_drewN ?_ _ | refine blk_drew ?_ | refine blk_alloc ?_ _)); exact BK225.out)) : gb225 ≠ gb228)); have n6_ := Aside0.mk ((by rw [hg]; exact Nat.ne_of_gt (blk_lt (g := gb225) (o := .cells #[.slice (some ad227) l0_0.length c0_0, .slice A0_1 l0_1.length c0_1, .int .i64 a0_2] 25 (0, 0)) (by (with_reducible repeat (first | refine blk_drewN ?_ _ | refine blk_drew ?_ | refine blk_alloc ?_ _)); exact BK225.out)) : gb228 ≠ gb225)); clear BK225; clear HB; have BK225 := n0_; have HB := n1_; have BK228 := n2_; have GW228 := n3_; have GE228 := n4_; have NB225_228 := n5_; have NB228_225 := n6_; clear n0_ n1_ n2_ n3_ n4_ n5_ n6_; clear hb hbox hg; have hnb25 := NB228_225.out; have hnc25 := NB225_228.out; have hcz26_0 : w24.cell? ⟨gb228, 0, none⟩ = some (.int .i64 0) := (blk_cell BK228.out 0).trans rfl; have hcz26_1 : w24.cell? ⟨gb228, 1, none⟩ = some (.int .i64 0) := (blk_cell BK228.out 1).trans rfl; have hcz26_2 : w24.cell? ⟨gb228, 2, none⟩ = some (.int .i64 0) := (blk_cell BK228.out 2).trans rfl; have hcz26_3 : w24.cell? ⟨gb228, 3, none⟩ = some (.int .i64 0) := (blk_cell BK228.out 3).trans rfl; have hfz26_0 := blk_frozen BK228.out 0; have hfz26_1 := blk_frozen BK228.out 1; have hfz26_2 := blk_frozen BK228.out 2; have hfz26_3 := blk_frozen BK228.out 3))
            have n0_ : Aside0 (((((w24.setCell ⟨gb228, 0, none⟩ (.int .i64 ((rd_T47 l0_0 x8_1).f0))).setCell ⟨gb228, 1, none⟩ (.int .i64 ((rd_T47 l0_0 x8_1).f1))).setCell ⟨gb228, 2, none⟩ (.int .i64 ((rd_T47 l0_0 x8_1).f2))).setCell ⟨gb228, 3, none⟩ (.int .i64 ((rd_T47 l0_0 x8_1).f3))).heap[gb225]? = some (.cells #[.slice (some ad227) l0_0.length c0_0, .slice A0_1 l0_1.length c0_1, .int .i64 a0_2] 25 (0, 0))) := ⟨by (with_reducible repeat (first | refine blk_drewN ?_ _ | refine blk_drew ?_ | refine blk_alloc ?_ _ | refine blk_far ?_ NB225_228.out _)); exact BK225.out⟩
            have n1_ : Aside0 (((((w24.setCell ⟨gb228, 0, none⟩ (.int .i64 ((rd_T47 l0_0 x8_1).f0))).setCell ⟨gb228, 1, none⟩ (.int .i64 ((rd_T47 l0_0 x8_1).f1))).setCell ⟨gb228, 2, none⟩ (.int .i64 ((rd_T47 l0_0 x8_1).f2))).setCell ⟨gb228, 3, none⟩ (.int .i64 ((rd_T47 l0_0 x8_1).f3))).heap[gb228]? = some (.cells #[.int .i64 ((rd_T47 l0_0 x8_1).f0), .int .i64 ((rd_T47 l0_0 x8_1).f1), .int .i64 ((rd_T47 l0_0 x8_1).f2), .int .i64 ((rd_T47 l0_0 x8_1).f3)] 47 (0, 0))) := ⟨by (with_reducible repeat (first | refine blk_drewN ?_ _ | refine blk_drew ?_ | refine blk_alloc ?_ _)); refine blk_put (cs := #[.int .i64 ((rd_T47 l0_0 x8_1).f0), .int .i64 ((rd_T47 l0_0 x8_1).f1), .int .i64 ((rd_T47 l0_0 x8_1).f2), .int .i64 0]) ?_ 3 _ rfl; (with_reducible repeat (first | refine blk_drewN ?_ _ | refine blk_drew ?_ | refine blk_alloc ?_ _)); refine blk_put (cs := #[.int .i64 ((rd_T47 l0_0 x8_1).f0), .int .i64 ((rd_T47 l0_0 x8_1).f1), .int .i64 0, .int .i64 0]) ?_ 2 _ rfl; (with_reducible repeat (first | refine blk_drewN ?_ _ | refine blk_drew ?_ | refine blk_alloc ?_ _)); refine blk_put (cs := #[.int .i64 ((rd_T47 l0_0 x8_1).f0), .int .i64 0, .int .i64 0, .int .i64 0]) ?_ 1 _ rfl; (with_reducible repeat (first | refine blk_drewN ?_ _ | refine blk_drew ?_ | refine blk_alloc ?_ _)); refine blk_put (cs := #[.int .i64 0, .int .i64 0, .int .i64 0, .int .i64 0]) ?_ 0 _ rfl; (with_reducible repeat (first | refine blk_drewN ?_ _ | refine blk_drew ?_ | refine blk_alloc ?_ _)); exact BK228.out⟩
            have n2_ : Aside0 (Below w.heap.size w ((((w24.setCell ⟨gb228, 0, none⟩ (.int .i64 ((rd_T47 l0_0 x8_1).f0))).setCell ⟨gb228, 1, none⟩ (.int .i64 ((rd_T47 l0_0 x8_1).f1))).setCell ⟨gb228, 2, none⟩ (.int .i64 ((rd_T47 l0_0 x8_1).f2))).setCell ⟨gb228, 3, none⟩ (.int .i64 ((rd_T47 l0_0 x8_1).f3)))) := ⟨by repeat (first | (with_reducible first | exact HB.out | apply below_alloc | apply pw_below_drewN | apply below_drew1 | refine below_set ?_ GE225.out | refine below_set ?_ GE228.out) | exact HB.out)⟩
            (try clear BK225)
            (try clear BK228)
            (try clear HB)
            generalize ((((w24.setCell ⟨gb228, 0, none⟩ (.int .i64 ((rd_T47 l0_0 x8_1).f0))).setCell ⟨gb228, 1, none⟩ (.int .i64 ((rd_T47 l0_0 x8_1).f1))).setCell ⟨gb228, 2, none⟩ (.int .i64 ((rd_T47 l0_0 x8_1).f2))).setCell ⟨gb228, 3, none⟩ (.int .i64 ((rd_T47 l0_0 x8_1).f3))) = w27 at n0_ n1_ n2_ ⊢
            have BK225 := n0_
            have BK228 := n1_
            have HB := n2_
            clear n0_ n1_ n2_
            have n0_ := Aside0.mk (blk_drew BK225.out)
            have n1_ := Aside0.mk (blk_drew BK228.out)
            have n2_ := Aside0.mk (below_drew1 HB.out)
            clear BK225
            clear BK228
            clear HB
            have BK225 := n0_
            have BK228 := n1_
            have HB := n2_
            clear n0_ n1_ n2_
            have p229 : 0 ≤ (x7_1 : Int) := of_decide_eq_true (by first | (with_reducible assumption) | assumption)
            have q229 : x7_1 < (l0_0.length : Int) := of_decide_eq_true (by first | (with_reducible assumption) | assumption)
            obtain ⟨ad229, e229, hx229_0, hx229_1, hx229_2, hx229_3⟩ := at_T47 HR0_0.out x7_1 p229 q229
            have hw229_3 := hx229_3
            have hw229_2 := hx229_2
            have hw229_1 := hx229_1
            have hw229_0 := hx229_0
            obtain rfl : ad227 = ad229 := (by injection e229)
            replace hx229_0 := (HB.out.cell (World.block_lt_of_cell? w _ hx229_0)).trans hx229_0
            replace hx229_1 := (HB.out.cell (World.block_lt_of_cell? w _ hx229_1)).trans hx229_1
            replace hx229_2 := (HB.out.cell (World.block_lt_of_cell? w _ hx229_2)).trans hx229_2
            replace hx229_3 := (HB.out.cell (World.block_lt_of_cell? w _ hx229_3)).trans hx229_3
            replace p229 := eq_true p229
            replace q229 := eq_true q229
            refine start_ (n := 21) (S := fun w' => w'.cell? ⟨gb228, 0, none⟩ = some (.int .i64 ((rd_T47 l0_0 x8_1).f0)) ∧ w'.cell? ⟨gb228, 1, none⟩ = some (.int .i64 ((rd_T47 l0_0 x8_1).f1)) ∧ w'.cell? ⟨gb228, 2, none⟩ = some (.int .i64 ((rd_T47 l0_0 x8_1).f2)) ∧ w'.cell? ⟨gb228, 3, none⟩ = some (.int .i64 ((rd_T47 l0_0 x8_1).f3)) ∧ w'.cell? ⟨gb225, 0, none⟩ = some (.slice (some ad227) l0_0.length c0_0) ∧ w'.cell? ⟨gb225, 1, none⟩ = some (.slice A0_1 l0_1.length c0_1) ∧ w'.cell? ⟨gb225, 2, none⟩ = some (.int .i64 a0_2) ∧ w'.cell? (ad227.add ((x7_1).toNat * 4)) = some (.int .i64 ((rd_T47 l0_0 x7_1).f0)) ∧ w'.cell? ⟨(ad227.add ((x7_1).toNat * 4)).block, (ad227.add ((x7_1).toNat * 4)).off + 1, none⟩ = some (.int .i64 ((rd_T47 l0_0 x7_1).f1)) ∧ w'.cell? ⟨(ad227.add ((x7_1).toNat * 4)).block, (ad227.add ((x7_1).toNat * 4)).off + 2, none⟩ = some (.int .i64 ((rd_T47 l0_0 x7_1).f2)) ∧ w'.cell? ⟨(ad227.add ((x7_1).toNat * 4)).block, (ad227.add ((x7_1).toNat * 4)).off + 3, none⟩ = some (.int .i64 ((rd_T47 l0_0 x7_1).f3))) (ds := []) z4f_m0 (by kernel_rfl) rfl rfl ⟨(blk_cell BK228.out 0).trans rfl, (blk_cell BK228.out 1).trans rfl, (blk_cell BK228.out 2).trans rfl, (blk_cell BK228.out 3).trans rfl, (blk_cell BK225.out 0).trans rfl, (blk_cell BK225.out 1).trans rfl, (blk_cell BK225.out 2).trans rfl, ((HB.out.cell (World.block_lt_of_cell? w _ hw229_0)).trans hw229_0), ((HB.out.cell (World.block_lt_of_cell? w _ hw229_1)).trans hw229_1), ((HB.out.cell (World.block_lt_of_cell? w _ hw229_2)).trans hw229_2), ((HB.out.cell (World.block_lt_of_cell? w _ hw229_3)).trans hw229_3)⟩ (fun hHeld => ?_); refine with_tabW bound_Rate.tab8 bound_Rate.bits8 (fun HT_ HW_ => ?_)
            generalize w27.drew = w28 at BK225 BK228 HB hx229_0 hx229_1 hx229_2 hx229_3 hHeld ⊢
            refine z4f_u 0 27 z4f_m1 HT_ (v := ?_) (a' := ?_) rfl rfl (by kernel_rfl) (fun _ _ _ h => h) (Or.inl ⟨by rfl, ?_⟩) ?_ ?_
            rotate_left
            · intro w'; go_simp; with_reducible rfl
            rotate_left
            · simp only [Act.put, z4f_q1, z4f_q2, z4f_q3, i64_w, i32_w]; rfl
            refine take_ (i := 1) (N := some 28) (v := ?_) (a' := ?_) z4f_m2 rfl rfl (take_ofW HT_.out HW_.out (by kernel_rfl)) (fun _ _ _ h => h) (Or.inl ⟨by rfl, ?_⟩) hHeld ?_ ?_
            rotate_left
            ·
             rintro w' ⟨s0, s1, s2, s3, s4, s5, s6, s7, s8, s9, s10⟩
             go_simp
             with_reducible rfl
            rotate_left
            · simp only [Act.put, z4f_q1, z4f_q2, z4f_q3, i64_w, i32_w]; rfl
            refine z4f_u 2 29 z4f_m3 HT_ (v := ?_) (a' := ?_) rfl rfl (by kernel_rfl) (fun _ _ _ h => h) (Or.inl ⟨by rfl, ?_⟩) ?_ ?_
            rotate_left
            · intro w'; go_simp; with_reducible rfl
            rotate_left
            · simp only [Act.put, z4f_q1, z4f_q2, z4f_q3, i64_w, i32_w]; rfl
            refine z4f_u 3 30 z4f_m4 HT_ (v := ?_) (a' := ?_) rfl rfl (by kernel_rfl) (fun _ _ _ h => h) (Or.inl ⟨by rfl, ?_⟩) ?_ ?_
            rotate_left
            · intro w'; go_simp; with_reducible rfl
            rotate_left
            · simp only [Act.put, z4f_q1, z4f_q2, z4f_q3, i64_w, i32_w]; rfl
            refine z4f_u 4 31 z4f_m5 HT_ (v := ?_) (a' := ?_) rfl rfl (by kernel_rfl) (fun _ _ _ h => h) (Or.inl ⟨by rfl, ?_⟩) ?_ ?_
            rotate_left
            · intro w'; go_simp; with_reducible rfl
            rotate_left
            · simp only [Act.put, z4f_q1, z4f_q2, z4f_q3, i64_w, i32_w]; rfl
            refine take_ (i := 5) (N := some 32) (v := ?_) (a' := ?_) z4f_m6 rfl rfl (take_ofW HT_.out HW_.out (by kernel_rfl)) (fun _ _ _ h => h) (Or.inl ⟨by rfl, ?_⟩) hHeld ?_ ?_
            rotate_left
            ·
             rintro w' ⟨s0, s1, s2, s3, s4, s5, s6, s7, s8, s9, s10⟩
             go_simp
             with_reducible rfl
            rotate_left
            · simp only [Act.put, z4f_q1, z4f_q2, z4f_q3, i64_w, i32_w]; rfl
            refine z4f_u 6 33 z4f_m7 HT_ (v := ?_) (a' := ?_) rfl rfl (by kernel_rfl) (fun _ _ _ h => h) (Or.inl ⟨by rfl, ?_⟩) ?_ ?_
            rotate_left
            · intro w'; go_simp; with_reducible rfl
            rotate_left
            · simp only [Act.put, z4f_q1, z4f_q2, z4f_q3, i64_w, i32_w]; rfl
            refine z4f_u 7 34 z4f_m8 HT_ (v := ?_) (a' := ?_) rfl rfl (by kernel_rfl) (fun _ _ _ h => h) (Or.inl ⟨by rfl, ?_⟩) ?_ ?_
            rotate_left
            · intro w'; go_simp; with_reducible rfl
            rotate_left
            · simp only [Act.put, z4f_q1, z4f_q2, z4f_q3, i64_w, i32_w]; rfl
            refine z4f_u 8 35 z4f_m9 HT_ (v := ?_) (a' := ?_) rfl rfl (by kernel_rfl) (fun _ _ _ h => h) (Or.inl ⟨by rfl, ?_⟩) ?_ ?_
            rotate_left
            · intro w'; go_simp; with_reducible rfl
            rotate_left
            · simp only [Act.put, z4f_q1, z4f_q2, z4f_q3, i64_w, i32_w]; rfl
            refine z4f_u 9 36 z4f_m10 HT_ (v := ?_) (a' := ?_) rfl rfl (by kernel_rfl) (fun _ _ _ h => h) (Or.inl ⟨by rfl, ?_⟩) ?_ ?_
            rotate_left
            · intro w'; go_simp; with_reducible rfl
            rotate_left
            · simp only [Act.put, z4f_q1, z4f_q2, z4f_q3, i64_w, i32_w]; rfl
            refine z4f_u 10 37 z4f_m11 HT_ (v := ?_) (a' := ?_) rfl rfl (by kernel_rfl) (fun _ _ _ h => h) (Or.inl ⟨by rfl, ?_⟩) ?_ ?_
            rotate_left
            · intro w'; go_simp; with_reducible rfl
            rotate_left
            · simp only [Act.put, z4f_q1, z4f_q2, z4f_q3, i64_w, i32_w]; rfl
            refine z4f_u 11 38 z4f_m12 HT_ (v := ?_) (a' := ?_) rfl rfl (by kernel_rfl) (fun _ _ _ h => h) (Or.inl ⟨by rfl, ?_⟩) ?_ ?_
            rotate_left
            · intro w'; go_simp; with_reducible rfl
            rotate_left
            · simp only [Act.put, z4f_q1, z4f_q2, z4f_q3, i64_w, i32_w]; rfl
            refine z4f_u 13 40 z4f_m22 HT_ (v := ?_) (a' := ?_) rfl rfl (by kernel_rfl) (fun _ _ _ h => h) (Or.inl ⟨by rfl, ?_⟩) ?_ ?_
            rotate_left
            · intro w'; go_simp; with_reducible rfl
            rotate_left
            · simp only [Act.put, z4f_q1, z4f_q2, z4f_q3, i64_w, i32_w]; rfl
            refine z4f_u 15 42 z4f_m23 HT_ (v := ?_) (a' := ?_) rfl rfl (by kernel_rfl) (fun _ _ _ h => h) (Or.inl ⟨by rfl, ?_⟩) ?_ ?_
            rotate_left
            · intro w'; go_simp; with_reducible rfl
            rotate_left
            · simp only [Act.put, z4f_q1, z4f_q2, z4f_q3, i64_w, i32_w]; rfl
            refine take_ (i := 12) (N := some 39) (v := ?_) (a' := ?_) z4f_m24 rfl rfl (take_ofW HT_.out HW_.out (by kernel_rfl)) (fun _ _ _ h => h) (Or.inl ⟨by rfl, ?_⟩) hHeld ?_ ?_
            rotate_left
            ·
             rintro w' ⟨s0, s1, s2, s3, s4, s5, s6, s7, s8, s9, s10⟩
             go_simp
             with_reducible rfl
            rotate_left
            · simp only [Act.put, z4f_q1, z4f_q2, z4f_q3, i64_w, i32_w]; rfl
            refine take_ (i := 14) (N := some 41) (v := ?_) (a' := ?_) z4f_m16 rfl rfl (take_ofW HT_.out HW_.out (by kernel_rfl)) (fun _ _ _ h => h) (Or.inl ⟨by rfl, ?_⟩) hHeld ?_ ?_
            rotate_left
            ·
             rintro w' ⟨s0, s1, s2, s3, s4, s5, s6, s7, s8, s9, s10⟩
             go_simp
             with_reducible rfl
            rotate_left
            · simp only [Act.put, z4f_q1, z4f_q2, z4f_q3, i64_w, i32_w]; rfl
            refine z4f_u 16 43 z4f_m17 HT_ (v := ?_) (a' := ?_) rfl rfl (by kernel_rfl) (fun _ _ _ h => h) (Or.inl ⟨by rfl, ?_⟩) ?_ ?_
            rotate_left
            · intro w'; go_simp; with_reducible rfl
            rotate_left
            · simp only [Act.put, z4f_q1, z4f_q2, z4f_q3, i64_w, i32_w]; rfl
            refine take_ (i := 17) (N := some 44) (v := ?_) (a' := ?_) z4f_m18 rfl rfl (take_ofW HT_.out HW_.out (by kernel_rfl)) (fun _ _ _ h => h) (Or.inl ⟨by rfl, ?_⟩) hHeld ?_ ?_
            rotate_left
            ·
             rintro w' ⟨s0, s1, s2, s3, s4, s5, s6, s7, s8, s9, s10⟩
             go_simp
             with_reducible rfl
            rotate_left
            · simp only [Act.put, z4f_q1, z4f_q2, z4f_q3, i64_w, i32_w]; rfl
            refine one_ (i := 18) (N := some 45) z4f_m19 rfl rfl (one_of HT_.out (by kernel_rfl)) (by decide) (fun K hK => ?_)
            refine goes_ Tryd.func51 (by kernel_rfl) rfl #[.agg #[.int .i64 ((rd_T47 l0_0 x8_1).f0), .int .i64 ((rd_T47 l0_0 x8_1).f1), .int .i64 ((rd_T47 l0_0 x8_1).f2), .int .i64 ((rd_T47 l0_0 x8_1).f3)], .agg #[.int .i64 ((rd_T47 l0_0 x7_1).f0), .int .i64 ((rd_T47 l0_0 x7_1).f1), .int .i64 ((rd_T47 l0_0 x7_1).f2), .int .i64 ((rd_T47 l0_0 x7_1).f3)]] (by rfl) rfl rfl (by (try simp only [List.map_toArray, List.map_cons, List.map_nil]); first | done | rfl | (simp only [List.length_drop, List.length_take]; rfl)) ?_
            with_reducible refine (lots_Cheaper.calls k1 ((rd_T47 l0_0 x8_1).f0) ((rd_T47 l0_0 x8_1).f1) ((rd_T47 l0_0 x8_1).f2) ((rd_T47 l0_0 x8_1).f3) ((rd_T47 l0_0 x7_1).f0) ((rd_T47 l0_0 x7_1).f1) ((rd_T47 l0_0 x7_1).f2) ((rd_T47 l0_0 x7_1).f3) true _ A21.out).mono ?_
            rintro e w29 ⟨rfl, hb⟩
            refine ⟨_, rfl, ?_⟩
            have n0_ := Aside0.mk (blk_below (g := gb225) (o := .cells #[.slice (some ad227) l0_0.length c0_0, .slice A0_1 l0_1.length c0_1, .int .i64 a0_2] 25 (0, 0)) (by (with_reducible repeat (first | refine blk_drewN ?_ _ | refine blk_drew ?_ | refine blk_alloc ?_ _)); exact BK225.out) hb)
            have n1_ := Aside0.mk (blk_below (g := gb228) (o := .cells #[.int .i64 ((rd_T47 l0_0 x8_1).f0), .int .i64 ((rd_T47 l0_0 x8_1).f1), .int .i64 ((rd_T47 l0_0 x8_1).f2), .int .i64 ((rd_T47 l0_0 x8_1).f3)] 47 (0, 0)) (by (with_reducible repeat (first | refine blk_drewN ?_ _ | refine blk_drew ?_ | refine blk_alloc ?_ _)); exact BK228.out) hb)
            have n2_ := Aside0.mk (below_step (by repeat (first | (with_reducible first | exact HB.out | apply below_alloc | apply pw_below_drewN | apply below_drew1 | refine below_set ?_ GE225.out | refine below_set ?_ GE228.out) | exact HB.out)) hb)
            clear BK225
            clear BK228
            clear HB
            have BK225 := n0_
            have BK228 := n1_
            have HB := n2_
            clear n0_ n1_ n2_
            (try clear hb)
            (try clear hb2)
            (try clear hk)
            (try clear hi)
            refine hK.out _ _ ⟨(blk_cell BK228.out 0).trans rfl, (blk_cell BK228.out 1).trans rfl, (blk_cell BK228.out 2).trans rfl, (blk_cell BK228.out 3).trans rfl, (blk_cell BK225.out 0).trans rfl, (blk_cell BK225.out 1).trans rfl, (blk_cell BK225.out 2).trans rfl, ((HB.out.cell (World.block_lt_of_cell? w _ hw229_0)).trans hw229_0), ((HB.out.cell (World.block_lt_of_cell? w _ hw229_1)).trans hw229_1), ((HB.out.cell (World.block_lt_of_cell? w _ hw229_2)).trans hw229_2), ((HB.out.cell (World.block_lt_of_cell? w _ hw229_3)).trans hw229_3)⟩ (fun hHeld => ?_)
            clear hK K
            refine norm_ (a' := ?_) ?_ ?_
            rotate_left
            ·
             show Act.put _ (some 45) _ = _
             simp only [Act.put, z4f_q1, z4f_q2, z4f_q3, i64_w, i32_w]
             rfl
            refine z4f_u 19 46 z4f_m20 HT_ (v := ?_) (a' := ?_) rfl rfl (by kernel_rfl) (fun _ _ _ h => h) (Or.inl ⟨by rfl, ?_⟩) ?_ ?_
            rotate_left
            · intro w'; go_simp; with_reducible rfl
            rotate_left
            · simp only [Act.put, z4f_q1, z4f_q2, z4f_q3, i64_w, i32_w]; rfl
            refine z4f_u 20 47 z4f_m21 HT_ (v := ?_) (a' := ?_) rfl rfl (by kernel_rfl) (fun _ _ _ h => h) (Or.inl ⟨by rfl, ?_⟩) ?_ ?_
            rotate_left
            · intro w'; go_simp; with_reducible rfl
            rotate_left
            · simp only [Act.put, z4f_q1, z4f_q2, z4f_q3, i64_w, i32_w]; rfl
            refine done_ (done_of HT_.out (by kernel_rfl)) ?_
            try go_wp2
            go_roundg k1
            case measure => have := HK1.out; omega
            case rel => exact ⟨(x8_1), (wrap64 (x8_1 + 1)), (by first | rfl | (simp; done) | (simp [*]; done) | (simp [wrap64]; done) | (simp [wrap64]; omega)), (by first | rfl | (simp; done) | (simp [*]; done) | (simp [wrap64]; done) | (simp [wrap64]; omega)), H', ⟨by have := HK1.out; omega⟩, ⟨by (with_reducible repeat (first | refine blk_drewN ?_ _ | refine blk_drew ?_ | refine blk_alloc ?_ _)); exact BK225.out⟩, ⟨by repeat (first | (with_reducible first | exact HB.out | apply below_alloc | apply pw_below_drewN | apply below_drew1 | refine below_set ?_ GE225.out | refine below_set ?_ GE228.out) | exact HB.out)⟩⟩
           ·
            replace c22 := Bool.eq_false_iff.mpr c22
            subst c22
            have H1 : (bound_Rate.l0 k1 x7_1 (wrap64 (x8_1 + 1)) l0_0 l0_1 a0_2) = some (r1, r2, r3) := by rw [if_neg (show ¬ (false = true) by decide)] at H; exact H
            clear H
            have H := H1
            clear H1
            have H' := Aside0.mk H
            clear H
            have hcz30_0 : wr.cell? ⟨gb225, 0, none⟩ = some (.slice A0_0 l0_0.length c0_0) := (blk_cell BK225.out 0).trans rfl
            have hcz30_1 : wr.cell? ⟨gb225, 1, none⟩ = some (.slice A0_1 l0_1.length c0_1) := (blk_cell BK225.out 1).trans rfl
            have hcz30_2 : wr.cell? ⟨gb225, 2, none⟩ = some (.int .i64 a0_2) := (blk_cell BK225.out 2).trans rfl
            have hfz30_0 := blk_frozen BK225.out 0
            have hfz30_1 := blk_frozen BK225.out 1
            have hfz30_2 := blk_frozen BK225.out 2
            have p227 : 0 ≤ (x8_1 : Int) := of_decide_eq_true (by first | (with_reducible assumption) | assumption)
            have q227 : x8_1 < (l0_0.length : Int) := of_decide_eq_true (by first | (with_reducible assumption) | assumption)
            obtain ⟨ad227, e227, hx227_0, hx227_1, hx227_2, hx227_3⟩ := at_T47 HR0_0.out x8_1 p227 q227
            cases e227
            replace hx227_0 := (HB.out.cell (World.block_lt_of_cell? w _ hx227_0)).trans hx227_0
            replace hx227_1 := (HB.out.cell (World.block_lt_of_cell? w _ hx227_1)).trans hx227_1
            replace hx227_2 := (HB.out.cell (World.block_lt_of_cell? w _ hx227_2)).trans hx227_2
            replace hx227_3 := (HB.out.cell (World.block_lt_of_cell? w _ hx227_3)).trans hx227_3
            replace p227 := eq_true p227
            replace q227 := eq_true q227
            try go_wp2_with (first | ((with_reducible refine gate_dst (N := 9) rfl ?_); refine box_event ?hg (N := 9) ?hd (cs := #[.int .i64 0, .int .i64 0, .int .i64 0, .int .i64 0]) (t := 47) ?hr ?_; (case hd => rfl); (case hg => rfl); (case hr => first | (go_simp; done) | (go_simp; rfl)); intro gb228 hg w31 hbox hb; have n0_ := Aside0.mk (blk_below (g := gb225) (o := .cells #[.slice (some ad227) l0_0.length c0_0, .slice A0_1 l0_1.length c0_1, .int .i64 a0_2] 25 (0, 0)) (by (with_reducible repeat (first | refine blk_drewN ?_ _ | refine blk_drew ?_ | refine blk_alloc ?_ _)); exact BK225.out) hb); have n1_ := Aside0.mk (below_step (by repeat (first | (with_reducible first | exact HB.out | apply below_alloc | apply pw_below_drewN | apply below_drew1 | refine below_set ?_ GE225.out) | exact HB.out)) hb); have n2_ := Aside0.mk (hbox); have n3_ := Aside0.mk ((by rw [hg]; exact (below_size (by repeat (first | (with_reducible first | exact HB.out | apply below_alloc | apply pw_below_drewN | apply below_drew1 | refine below_set ?_ GE225.out) | exact HB.out))) : w.heap.size ≤ gb228)); have n4_ := Aside0.mk ((by rw [hg]; exact (below_size (by repeat (first | (with_reducible first | exact HB.out | apply below_alloc | apply pw_below_drewN | apply below_drew1 | refine below_set ?_ GE225.out) | exact HB.out))) : w.heap.size ≤ gb228)); have n5_ := Aside0.mk ((by rw [hg]; exact Nat.ne_of_lt (blk_lt (g := gb225) (o := .cells #[.slice (some ad227) l0_0.length c0_0, .slice A0_1 l0_1.length c0_1, .int .i64 a0_2] 25 (0, 0)) (by (with_reducible repeat (first | refine blk_drewN ?_ _ | refine blk_drew ?_ | refine blk_alloc ?_ _)); exact BK225.out)) : gb225 ≠ gb228)); have n6_ := Aside0.mk ((by rw [hg]; exact Nat.ne_of_gt (blk_lt (g := gb225) (o := .cells #[.slice (some ad227) l0_0.length c0_0, .slice A0_1 l0_1.length c0_1, .int .i64 a0_2] 25 (0, 0)) (by (with_reducible repeat (first | refine blk_drewN ?_ _ | refine blk_drew ?_ | refine blk_alloc ?_ _)); exact BK225.out)) : gb228 ≠ gb225)); clear BK225; clear HB; have BK225 := n0_; have HB := n1_; have BK228 := n2_; have GW228 := n3_; have GE228 := n4_; have NB225_228 := n5_; have NB228_225 := n6_; clear n0_ n1_ n2_ n3_ n4_ n5_ n6_; clear hb hbox hg; have hnb32 := NB228_225.out; have hnc32 := NB225_228.out; have hcz33_0 : w31.cell? ⟨gb228, 0, none⟩ = some (.int .i64 0) := (blk_cell BK228.out 0).trans rfl; have hcz33_1 : w31.cell? ⟨gb228, 1, none⟩ = some (.int .i64 0) := (blk_cell BK228.out 1).trans rfl; have hcz33_2 : w31.cell? ⟨gb228, 2, none⟩ = some (.int .i64 0) := (blk_cell BK228.out 2).trans rfl; have hcz33_3 : w31.cell? ⟨gb228, 3, none⟩ = some (.int .i64 0) := (blk_cell BK228.out 3).trans rfl; have hfz33_0 := blk_frozen BK228.out 0; have hfz33_1 := blk_frozen BK228.out 1; have hfz33_2 := blk_frozen BK228.out 2; have hfz33_3 := blk_frozen BK228.out 3))
            have n0_ : Aside0 (((((w31.setCell ⟨gb228, 0, none⟩ (.int .i64 ((rd_T47 l0_0 x8_1).f0))).setCell ⟨gb228, 1, none⟩ (.int .i64 ((rd_T47 l0_0 x8_1).f1))).setCell ⟨gb228, 2, none⟩ (.int .i64 ((rd_T47 l0_0 x8_1).f2))).setCell ⟨gb228, 3, none⟩ (.int .i64 ((rd_T47 l0_0 x8_1).f3))).heap[gb225]? = some (.cells #[.slice (some ad227) l0_0.length c0_0, .slice A0_1 l0_1.length c0_1, .int .i64 a0_2] 25 (0, 0))) := ⟨by (with_reducible repeat (first | refine blk_drewN ?_ _ | refine blk_drew ?_ | refine blk_alloc ?_ _ | refine blk_far ?_ NB225_228.out _)); exact BK225.out⟩
            have n1_ : Aside0 (((((w31.setCell ⟨gb228, 0, none⟩ (.int .i64 ((rd_T47 l0_0 x8_1).f0))).setCell ⟨gb228, 1, none⟩ (.int .i64 ((rd_T47 l0_0 x8_1).f1))).setCell ⟨gb228, 2, none⟩ (.int .i64 ((rd_T47 l0_0 x8_1).f2))).setCell ⟨gb228, 3, none⟩ (.int .i64 ((rd_T47 l0_0 x8_1).f3))).heap[gb228]? = some (.cells #[.int .i64 ((rd_T47 l0_0 x8_1).f0), .int .i64 ((rd_T47 l0_0 x8_1).f1), .int .i64 ((rd_T47 l0_0 x8_1).f2), .int .i64 ((rd_T47 l0_0 x8_1).f3)] 47 (0, 0))) := ⟨by (with_reducible repeat (first | refine blk_drewN ?_ _ | refine blk_drew ?_ | refine blk_alloc ?_ _)); refine blk_put (cs := #[.int .i64 ((rd_T47 l0_0 x8_1).f0), .int .i64 ((rd_T47 l0_0 x8_1).f1), .int .i64 ((rd_T47 l0_0 x8_1).f2), .int .i64 0]) ?_ 3 _ rfl; (with_reducible repeat (first | refine blk_drewN ?_ _ | refine blk_drew ?_ | refine blk_alloc ?_ _)); refine blk_put (cs := #[.int .i64 ((rd_T47 l0_0 x8_1).f0), .int .i64 ((rd_T47 l0_0 x8_1).f1), .int .i64 0, .int .i64 0]) ?_ 2 _ rfl; (with_reducible repeat (first | refine blk_drewN ?_ _ | refine blk_drew ?_ | refine blk_alloc ?_ _)); refine blk_put (cs := #[.int .i64 ((rd_T47 l0_0 x8_1).f0), .int .i64 0, .int .i64 0, .int .i64 0]) ?_ 1 _ rfl; (with_reducible repeat (first | refine blk_drewN ?_ _ | refine blk_drew ?_ | refine blk_alloc ?_ _)); refine blk_put (cs := #[.int .i64 0, .int .i64 0, .int .i64 0, .int .i64 0]) ?_ 0 _ rfl; (with_reducible repeat (first | refine blk_drewN ?_ _ | refine blk_drew ?_ | refine blk_alloc ?_ _)); exact BK228.out⟩
            have n2_ : Aside0 (Below w.heap.size w ((((w31.setCell ⟨gb228, 0, none⟩ (.int .i64 ((rd_T47 l0_0 x8_1).f0))).setCell ⟨gb228, 1, none⟩ (.int .i64 ((rd_T47 l0_0 x8_1).f1))).setCell ⟨gb228, 2, none⟩ (.int .i64 ((rd_T47 l0_0 x8_1).f2))).setCell ⟨gb228, 3, none⟩ (.int .i64 ((rd_T47 l0_0 x8_1).f3)))) := ⟨by repeat (first | (with_reducible first | exact HB.out | apply below_alloc | apply pw_below_drewN | apply below_drew1 | refine below_set ?_ GE225.out | refine below_set ?_ GE228.out) | exact HB.out)⟩
            (try clear BK225)
            (try clear BK228)
            (try clear HB)
            generalize ((((w31.setCell ⟨gb228, 0, none⟩ (.int .i64 ((rd_T47 l0_0 x8_1).f0))).setCell ⟨gb228, 1, none⟩ (.int .i64 ((rd_T47 l0_0 x8_1).f1))).setCell ⟨gb228, 2, none⟩ (.int .i64 ((rd_T47 l0_0 x8_1).f2))).setCell ⟨gb228, 3, none⟩ (.int .i64 ((rd_T47 l0_0 x8_1).f3))) = w34 at n0_ n1_ n2_ ⊢
            have BK225 := n0_
            have BK228 := n1_
            have HB := n2_
            clear n0_ n1_ n2_
            have n0_ := Aside0.mk (blk_drew BK225.out)
            have n1_ := Aside0.mk (blk_drew BK228.out)
            have n2_ := Aside0.mk (below_drew1 HB.out)
            clear BK225
            clear BK228
            clear HB
            have BK225 := n0_
            have BK228 := n1_
            have HB := n2_
            clear n0_ n1_ n2_
            have p229 : 0 ≤ (x7_1 : Int) := of_decide_eq_true (by first | (with_reducible assumption) | assumption)
            have q229 : x7_1 < (l0_0.length : Int) := of_decide_eq_true (by first | (with_reducible assumption) | assumption)
            obtain ⟨ad229, e229, hx229_0, hx229_1, hx229_2, hx229_3⟩ := at_T47 HR0_0.out x7_1 p229 q229
            have hw229_3 := hx229_3
            have hw229_2 := hx229_2
            have hw229_1 := hx229_1
            have hw229_0 := hx229_0
            obtain rfl : ad227 = ad229 := (by injection e229)
            replace hx229_0 := (HB.out.cell (World.block_lt_of_cell? w _ hx229_0)).trans hx229_0
            replace hx229_1 := (HB.out.cell (World.block_lt_of_cell? w _ hx229_1)).trans hx229_1
            replace hx229_2 := (HB.out.cell (World.block_lt_of_cell? w _ hx229_2)).trans hx229_2
            replace hx229_3 := (HB.out.cell (World.block_lt_of_cell? w _ hx229_3)).trans hx229_3
            replace p229 := eq_true p229
            replace q229 := eq_true q229
            refine start_ (n := 21) (S := fun w' => w'.cell? ⟨gb228, 0, none⟩ = some (.int .i64 ((rd_T47 l0_0 x8_1).f0)) ∧ w'.cell? ⟨gb228, 1, none⟩ = some (.int .i64 ((rd_T47 l0_0 x8_1).f1)) ∧ w'.cell? ⟨gb228, 2, none⟩ = some (.int .i64 ((rd_T47 l0_0 x8_1).f2)) ∧ w'.cell? ⟨gb228, 3, none⟩ = some (.int .i64 ((rd_T47 l0_0 x8_1).f3)) ∧ w'.cell? ⟨gb225, 0, none⟩ = some (.slice (some ad227) l0_0.length c0_0) ∧ w'.cell? ⟨gb225, 1, none⟩ = some (.slice A0_1 l0_1.length c0_1) ∧ w'.cell? ⟨gb225, 2, none⟩ = some (.int .i64 a0_2) ∧ w'.cell? (ad227.add ((x7_1).toNat * 4)) = some (.int .i64 ((rd_T47 l0_0 x7_1).f0)) ∧ w'.cell? ⟨(ad227.add ((x7_1).toNat * 4)).block, (ad227.add ((x7_1).toNat * 4)).off + 1, none⟩ = some (.int .i64 ((rd_T47 l0_0 x7_1).f1)) ∧ w'.cell? ⟨(ad227.add ((x7_1).toNat * 4)).block, (ad227.add ((x7_1).toNat * 4)).off + 2, none⟩ = some (.int .i64 ((rd_T47 l0_0 x7_1).f2)) ∧ w'.cell? ⟨(ad227.add ((x7_1).toNat * 4)).block, (ad227.add ((x7_1).toNat * 4)).off + 3, none⟩ = some (.int .i64 ((rd_T47 l0_0 x7_1).f3))) (ds := []) z4f_m0 (by kernel_rfl) rfl rfl ⟨(blk_cell BK228.out 0).trans rfl, (blk_cell BK228.out 1).trans rfl, (blk_cell BK228.out 2).trans rfl, (blk_cell BK228.out 3).trans rfl, (blk_cell BK225.out 0).trans rfl, (blk_cell BK225.out 1).trans rfl, (blk_cell BK225.out 2).trans rfl, ((HB.out.cell (World.block_lt_of_cell? w _ hw229_0)).trans hw229_0), ((HB.out.cell (World.block_lt_of_cell? w _ hw229_1)).trans hw229_1), ((HB.out.cell (World.block_lt_of_cell? w _ hw229_2)).trans hw229_2), ((HB.out.cell (World.block_lt_of_cell? w _ hw229_3)).trans hw229_3)⟩ (fun hHeld => ?_); refine with_tabW bound_Rate.tab8 bound_Rate.bits8 (fun HT_ HW_ => ?_)
            generalize w34.drew = w35 at BK225 BK228 HB hx229_0 hx229_1 hx229_2 hx229_3 hHeld ⊢
            refine z4f_u 0 27 z4f_m1 HT_ (v := ?_) (a' := ?_) rfl rfl (by kernel_rfl) (fun _ _ _ h => h) (Or.inl ⟨by rfl, ?_⟩) ?_ ?_
            rotate_left
            · intro w'; go_simp; with_reducible rfl
            rotate_left
            · simp only [Act.put, z4f_q1, z4f_q2, z4f_q3, i64_w, i32_w]; rfl
            refine take_ (i := 1) (N := some 28) (v := ?_) (a' := ?_) z4f_m2 rfl rfl (take_ofW HT_.out HW_.out (by kernel_rfl)) (fun _ _ _ h => h) (Or.inl ⟨by rfl, ?_⟩) hHeld ?_ ?_
            rotate_left
            ·
             rintro w' ⟨s0, s1, s2, s3, s4, s5, s6, s7, s8, s9, s10⟩
             go_simp
             with_reducible rfl
            rotate_left
            · simp only [Act.put, z4f_q1, z4f_q2, z4f_q3, i64_w, i32_w]; rfl
            refine z4f_u 2 29 z4f_m3 HT_ (v := ?_) (a' := ?_) rfl rfl (by kernel_rfl) (fun _ _ _ h => h) (Or.inl ⟨by rfl, ?_⟩) ?_ ?_
            rotate_left
            · intro w'; go_simp; with_reducible rfl
            rotate_left
            · simp only [Act.put, z4f_q1, z4f_q2, z4f_q3, i64_w, i32_w]; rfl
            refine z4f_u 3 30 z4f_m4 HT_ (v := ?_) (a' := ?_) rfl rfl (by kernel_rfl) (fun _ _ _ h => h) (Or.inl ⟨by rfl, ?_⟩) ?_ ?_
            rotate_left
            · intro w'; go_simp; with_reducible rfl
            rotate_left
            · simp only [Act.put, z4f_q1, z4f_q2, z4f_q3, i64_w, i32_w]; rfl
            refine z4f_u 4 31 z4f_m5 HT_ (v := ?_) (a' := ?_) rfl rfl (by kernel_rfl) (fun _ _ _ h => h) (Or.inl ⟨by rfl, ?_⟩) ?_ ?_
            rotate_left
            · intro w'; go_simp; with_reducible rfl
            rotate_left
            · simp only [Act.put, z4f_q1, z4f_q2, z4f_q3, i64_w, i32_w]; rfl
            refine take_ (i := 5) (N := some 32) (v := ?_) (a' := ?_) z4f_m6 rfl rfl (take_ofW HT_.out HW_.out (by kernel_rfl)) (fun _ _ _ h => h) (Or.inl ⟨by rfl, ?_⟩) hHeld ?_ ?_
            rotate_left
            ·
             rintro w' ⟨s0, s1, s2, s3, s4, s5, s6, s7, s8, s9, s10⟩
             go_simp
             with_reducible rfl
            rotate_left
            · simp only [Act.put, z4f_q1, z4f_q2, z4f_q3, i64_w, i32_w]; rfl
            refine z4f_u 6 33 z4f_m7 HT_ (v := ?_) (a' := ?_) rfl rfl (by kernel_rfl) (fun _ _ _ h => h) (Or.inl ⟨by rfl, ?_⟩) ?_ ?_
            rotate_left
            · intro w'; go_simp; with_reducible rfl
            rotate_left
            · simp only [Act.put, z4f_q1, z4f_q2, z4f_q3, i64_w, i32_w]; rfl
            refine z4f_u 7 34 z4f_m8 HT_ (v := ?_) (a' := ?_) rfl rfl (by kernel_rfl) (fun _ _ _ h => h) (Or.inl ⟨by rfl, ?_⟩) ?_ ?_
            rotate_left
            · intro w'; go_simp; with_reducible rfl
            rotate_left
            · simp only [Act.put, z4f_q1, z4f_q2, z4f_q3, i64_w, i32_w]; rfl
            refine z4f_u 8 35 z4f_m9 HT_ (v := ?_) (a' := ?_) rfl rfl (by kernel_rfl) (fun _ _ _ h => h) (Or.inl ⟨by rfl, ?_⟩) ?_ ?_
            rotate_left
            · intro w'; go_simp; with_reducible rfl
            rotate_left
            · simp only [Act.put, z4f_q1, z4f_q2, z4f_q3, i64_w, i32_w]; rfl
            refine z4f_u 9 36 z4f_m10 HT_ (v := ?_) (a' := ?_) rfl rfl (by kernel_rfl) (fun _ _ _ h => h) (Or.inl ⟨by rfl, ?_⟩) ?_ ?_
            rotate_left
            · intro w'; go_simp; with_reducible rfl
            rotate_left
            · simp only [Act.put, z4f_q1, z4f_q2, z4f_q3, i64_w, i32_w]; rfl
            refine z4f_u 10 37 z4f_m11 HT_ (v := ?_) (a' := ?_) rfl rfl (by kernel_rfl) (fun _ _ _ h => h) (Or.inl ⟨by rfl, ?_⟩) ?_ ?_
            rotate_left
            · intro w'; go_simp; with_reducible rfl
            rotate_left
            · simp only [Act.put, z4f_q1, z4f_q2, z4f_q3, i64_w, i32_w]; rfl
            refine z4f_u 11 38 z4f_m12 HT_ (v := ?_) (a' := ?_) rfl rfl (by kernel_rfl) (fun _ _ _ h => h) (Or.inl ⟨by rfl, ?_⟩) ?_ ?_
            rotate_left
            · intro w'; go_simp; with_reducible rfl
            rotate_left
            · simp only [Act.put, z4f_q1, z4f_q2, z4f_q3, i64_w, i32_w]; rfl
            refine z4f_u 13 40 z4f_m22 HT_ (v := ?_) (a' := ?_) rfl rfl (by kernel_rfl) (fun _ _ _ h => h) (Or.inl ⟨by rfl, ?_⟩) ?_ ?_
            rotate_left
            · intro w'; go_simp; with_reducible rfl
            rotate_left
            · simp only [Act.put, z4f_q1, z4f_q2, z4f_q3, i64_w, i32_w]; rfl
            refine z4f_u 15 42 z4f_m23 HT_ (v := ?_) (a' := ?_) rfl rfl (by kernel_rfl) (fun _ _ _ h => h) (Or.inl ⟨by rfl, ?_⟩) ?_ ?_
            rotate_left
            · intro w'; go_simp; with_reducible rfl
            rotate_left
            · simp only [Act.put, z4f_q1, z4f_q2, z4f_q3, i64_w, i32_w]; rfl
            refine take_ (i := 12) (N := some 39) (v := ?_) (a' := ?_) z4f_m24 rfl rfl (take_ofW HT_.out HW_.out (by kernel_rfl)) (fun _ _ _ h => h) (Or.inl ⟨by rfl, ?_⟩) hHeld ?_ ?_
            rotate_left
            ·
             rintro w' ⟨s0, s1, s2, s3, s4, s5, s6, s7, s8, s9, s10⟩
             go_simp
             with_reducible rfl
            rotate_left
            · simp only [Act.put, z4f_q1, z4f_q2, z4f_q3, i64_w, i32_w]; rfl
            refine take_ (i := 14) (N := some 41) (v := ?_) (a' := ?_) z4f_m16 rfl rfl (take_ofW HT_.out HW_.out (by kernel_rfl)) (fun _ _ _ h => h) (Or.inl ⟨by rfl, ?_⟩) hHeld ?_ ?_
            rotate_left
            ·
             rintro w' ⟨s0, s1, s2, s3, s4, s5, s6, s7, s8, s9, s10⟩
             go_simp
             with_reducible rfl
            rotate_left
            · simp only [Act.put, z4f_q1, z4f_q2, z4f_q3, i64_w, i32_w]; rfl
            refine z4f_u 16 43 z4f_m17 HT_ (v := ?_) (a' := ?_) rfl rfl (by kernel_rfl) (fun _ _ _ h => h) (Or.inl ⟨by rfl, ?_⟩) ?_ ?_
            rotate_left
            · intro w'; go_simp; with_reducible rfl
            rotate_left
            · simp only [Act.put, z4f_q1, z4f_q2, z4f_q3, i64_w, i32_w]; rfl
            refine take_ (i := 17) (N := some 44) (v := ?_) (a' := ?_) z4f_m18 rfl rfl (take_ofW HT_.out HW_.out (by kernel_rfl)) (fun _ _ _ h => h) (Or.inl ⟨by rfl, ?_⟩) hHeld ?_ ?_
            rotate_left
            ·
             rintro w' ⟨s0, s1, s2, s3, s4, s5, s6, s7, s8, s9, s10⟩
             go_simp
             with_reducible rfl
            rotate_left
            · simp only [Act.put, z4f_q1, z4f_q2, z4f_q3, i64_w, i32_w]; rfl
            refine one_ (i := 18) (N := some 45) z4f_m19 rfl rfl (one_of HT_.out (by kernel_rfl)) (by decide) (fun K hK => ?_)
            refine goes_ Tryd.func51 (by kernel_rfl) rfl #[.agg #[.int .i64 ((rd_T47 l0_0 x8_1).f0), .int .i64 ((rd_T47 l0_0 x8_1).f1), .int .i64 ((rd_T47 l0_0 x8_1).f2), .int .i64 ((rd_T47 l0_0 x8_1).f3)], .agg #[.int .i64 ((rd_T47 l0_0 x7_1).f0), .int .i64 ((rd_T47 l0_0 x7_1).f1), .int .i64 ((rd_T47 l0_0 x7_1).f2), .int .i64 ((rd_T47 l0_0 x7_1).f3)]] (by rfl) rfl rfl (by (try simp only [List.map_toArray, List.map_cons, List.map_nil]); first | done | rfl | (simp only [List.length_drop, List.length_take]; rfl)) ?_
            with_reducible refine (lots_Cheaper.calls k1 ((rd_T47 l0_0 x8_1).f0) ((rd_T47 l0_0 x8_1).f1) ((rd_T47 l0_0 x8_1).f2) ((rd_T47 l0_0 x8_1).f3) ((rd_T47 l0_0 x7_1).f0) ((rd_T47 l0_0 x7_1).f1) ((rd_T47 l0_0 x7_1).f2) ((rd_T47 l0_0 x7_1).f3) false _ A21.out).mono ?_
            rintro e w36 ⟨rfl, hb⟩
            refine ⟨_, rfl, ?_⟩
            have n0_ := Aside0.mk (blk_below (g := gb225) (o := .cells #[.slice (some ad227) l0_0.length c0_0, .slice A0_1 l0_1.length c0_1, .int .i64 a0_2] 25 (0, 0)) (by (with_reducible repeat (first | refine blk_drewN ?_ _ | refine blk_drew ?_ | refine blk_alloc ?_ _)); exact BK225.out) hb)
            have n1_ := Aside0.mk (blk_below (g := gb228) (o := .cells #[.int .i64 ((rd_T47 l0_0 x8_1).f0), .int .i64 ((rd_T47 l0_0 x8_1).f1), .int .i64 ((rd_T47 l0_0 x8_1).f2), .int .i64 ((rd_T47 l0_0 x8_1).f3)] 47 (0, 0)) (by (with_reducible repeat (first | refine blk_drewN ?_ _ | refine blk_drew ?_ | refine blk_alloc ?_ _)); exact BK228.out) hb)
            have n2_ := Aside0.mk (below_step (by repeat (first | (with_reducible first | exact HB.out | apply below_alloc | apply pw_below_drewN | apply below_drew1 | refine below_set ?_ GE225.out | refine below_set ?_ GE228.out) | exact HB.out)) hb)
            clear BK225
            clear BK228
            clear HB
            have BK225 := n0_
            have BK228 := n1_
            have HB := n2_
            clear n0_ n1_ n2_
            (try clear hb)
            (try clear hb2)
            (try clear hk)
            (try clear hi)
            refine hK.out _ _ ⟨(blk_cell BK228.out 0).trans rfl, (blk_cell BK228.out 1).trans rfl, (blk_cell BK228.out 2).trans rfl, (blk_cell BK228.out 3).trans rfl, (blk_cell BK225.out 0).trans rfl, (blk_cell BK225.out 1).trans rfl, (blk_cell BK225.out 2).trans rfl, ((HB.out.cell (World.block_lt_of_cell? w _ hw229_0)).trans hw229_0), ((HB.out.cell (World.block_lt_of_cell? w _ hw229_1)).trans hw229_1), ((HB.out.cell (World.block_lt_of_cell? w _ hw229_2)).trans hw229_2), ((HB.out.cell (World.block_lt_of_cell? w _ hw229_3)).trans hw229_3)⟩ (fun hHeld => ?_)
            clear hK K
            refine norm_ (a' := ?_) ?_ ?_
            rotate_left
            ·
             show Act.put _ (some 45) _ = _
             simp only [Act.put, z4f_q1, z4f_q2, z4f_q3, i64_w, i32_w]
             rfl
            refine z4f_u 19 46 z4f_m20 HT_ (v := ?_) (a' := ?_) rfl rfl (by kernel_rfl) (fun _ _ _ h => h) (Or.inl ⟨by rfl, ?_⟩) ?_ ?_
            rotate_left
            · intro w'; go_simp; with_reducible rfl
            rotate_left
            · simp only [Act.put, z4f_q1, z4f_q2, z4f_q3, i64_w, i32_w]; rfl
            refine z4f_u 20 47 z4f_m21 HT_ (v := ?_) (a' := ?_) rfl rfl (by kernel_rfl) (fun _ _ _ h => h) (Or.inl ⟨by rfl, ?_⟩) ?_ ?_
            rotate_left
            · intro w'; go_simp; with_reducible rfl
            rotate_left
            · simp only [Act.put, z4f_q1, z4f_q2, z4f_q3, i64_w, i32_w]; rfl
            refine done_ (done_of HT_.out (by kernel_rfl)) ?_
            try go_wp2
            go_roundg k1
            case measure => have := HK1.out; omega
            case rel => exact ⟨(x7_1), (wrap64 (x8_1 + 1)), (by first | rfl | (simp; done) | (simp [*]; done) | (simp [wrap64]; done) | (simp [wrap64]; omega)), (by first | rfl | (simp; done) | (simp [*]; done) | (simp [wrap64]; done) | (simp [wrap64]; omega)), H', ⟨by have := HK1.out; omega⟩, ⟨by (with_reducible repeat (first | refine blk_drewN ?_ _ | refine blk_drew ?_ | refine blk_alloc ?_ _)); exact BK225.out⟩, ⟨by repeat (first | (with_reducible first | exact HB.out | apply below_alloc | apply pw_below_drewN | apply below_drew1 | refine below_set ?_ GE225.out | refine below_set ?_ GE228.out) | exact HB.out)⟩⟩
          ·
           rw [if_neg c20] at H
           exact absurd H (by simp)
         ·
          rw [if_neg c19] at H
          exact absurd H (by simp)
       ·
        rw [if_neg c11] at H
        have c11b0 : decide (0 < ((rd_T47 l0_0 x8_1).f0)) = false := decide_eq_false c11
        clear c11
        have H' := Aside0.mk H
        clear H
        have hcz37_0 : wr.cell? ⟨gb225, 0, none⟩ = some (.slice A0_0 l0_0.length c0_0) := (blk_cell BK225.out 0).trans rfl
        have hcz37_1 : wr.cell? ⟨gb225, 1, none⟩ = some (.slice A0_1 l0_1.length c0_1) := (blk_cell BK225.out 1).trans rfl
        have hcz37_2 : wr.cell? ⟨gb225, 2, none⟩ = some (.int .i64 a0_2) := (blk_cell BK225.out 2).trans rfl
        have hfz37_0 := blk_frozen BK225.out 0
        have hfz37_1 := blk_frozen BK225.out 1
        have hfz37_2 := blk_frozen BK225.out 2
        have p227 : 0 ≤ (x8_1 : Int) := of_decide_eq_true (by first | (with_reducible assumption) | assumption)
        have q227 : x8_1 < (l0_0.length : Int) := of_decide_eq_true (by first | (with_reducible assumption) | assumption)
        obtain ⟨ad227, e227, hx227_0, hx227_1, hx227_2, hx227_3⟩ := at_T47 HR0_0.out x8_1 p227 q227
        cases e227
        replace hx227_0 := (HB.out.cell (World.block_lt_of_cell? w _ hx227_0)).trans hx227_0
        replace hx227_1 := (HB.out.cell (World.block_lt_of_cell? w _ hx227_1)).trans hx227_1
        replace hx227_2 := (HB.out.cell (World.block_lt_of_cell? w _ hx227_2)).trans hx227_2
        replace hx227_3 := (HB.out.cell (World.block_lt_of_cell? w _ hx227_3)).trans hx227_3
        replace p227 := eq_true p227
        replace q227 := eq_true q227
        try go_wp2_with (first | ((with_reducible refine gate_dst (N := 9) rfl ?_); refine box_event ?hg (N := 9) ?hd (cs := #[.int .i64 0, .int .i64 0, .int .i64 0, .int .i64 0]) (t := 47) ?hr ?_; (case hd => rfl); (case hg => rfl); (case hr => first | (go_simp; done) | (go_simp; rfl)); intro gb228 hg w38 hbox hb; have n0_ := Aside0.mk (blk_below (g := gb225) (o := .cells #[.slice (some ad227) l0_0.length c0_0, .slice A0_1 l0_1.length c0_1, .int .i64 a0_2] 25 (0, 0)) (by (with_reducible repeat (first | refine blk_drewN ?_ _ | refine blk_drew ?_ | refine blk_alloc ?_ _)); exact BK225.out) hb); have n1_ := Aside0.mk (below_step (by repeat (first | (with_reducible first | exact HB.out | apply below_alloc | apply pw_below_drewN | apply below_drew1 | refine below_set ?_ GE225.out) | exact HB.out)) hb); have n2_ := Aside0.mk (hbox); have n3_ := Aside0.mk ((by rw [hg]; exact (below_size (by repeat (first | (with_reducible first | exact HB.out | apply below_alloc | apply pw_below_drewN | apply below_drew1 | refine below_set ?_ GE225.out) | exact HB.out))) : w.heap.size ≤ gb228)); have n4_ := Aside0.mk ((by rw [hg]; exact (below_size (by repeat (first | (with_reducible first | exact HB.out | apply below_alloc | apply pw_below_drewN | apply below_drew1 | refine below_set ?_ GE225.out) | exact HB.out))) : w.heap.size ≤ gb228)); have n5_ := Aside0.mk ((by rw [hg]; exact Nat.ne_of_lt (blk_lt (g := gb225) (o := .cells #[.slice (some ad227) l0_0.length c0_0, .slice A0_1 l0_1.length c0_1, .int .i64 a0_2] 25 (0, 0)) (by (with_reducible repeat (first | refine blk_drewN ?_ _ | refine blk_drew ?_ | refine blk_alloc ?_ _)); exact BK225.out)) : gb225 ≠ gb228)); have n6_ := Aside0.mk ((by rw [hg]; exact Nat.ne_of_gt (blk_lt (g := gb225) (o := .cells #[.slice (some ad227) l0_0.length c0_0, .slice A0_1 l0_1.length c0_1, .int .i64 a0_2] 25 (0, 0)) (by (with_reducible repeat (first | refine blk_drewN ?_ _ | refine blk_drew ?_ | refine blk_alloc ?_ _)); exact BK225.out)) : gb228 ≠ gb225)); clear BK225; clear HB; have BK225 := n0_; have HB := n1_; have BK228 := n2_; have GW228 := n3_; have GE228 := n4_; have NB225_228 := n5_; have NB228_225 := n6_; clear n0_ n1_ n2_ n3_ n4_ n5_ n6_; clear hb hbox hg; have hnb39 := NB228_225.out; have hnc39 := NB225_228.out; have hcz40_0 : w38.cell? ⟨gb228, 0, none⟩ = some (.int .i64 0) := (blk_cell BK228.out 0).trans rfl; have hcz40_1 : w38.cell? ⟨gb228, 1, none⟩ = some (.int .i64 0) := (blk_cell BK228.out 1).trans rfl; have hcz40_2 : w38.cell? ⟨gb228, 2, none⟩ = some (.int .i64 0) := (blk_cell BK228.out 2).trans rfl; have hcz40_3 : w38.cell? ⟨gb228, 3, none⟩ = some (.int .i64 0) := (blk_cell BK228.out 3).trans rfl; have hfz40_0 := blk_frozen BK228.out 0; have hfz40_1 := blk_frozen BK228.out 1; have hfz40_2 := blk_frozen BK228.out 2; have hfz40_3 := blk_frozen BK228.out 3))
        have n0_ : Aside0 (((((w38.setCell ⟨gb228, 0, none⟩ (.int .i64 ((rd_T47 l0_0 x8_1).f0))).setCell ⟨gb228, 1, none⟩ (.int .i64 ((rd_T47 l0_0 x8_1).f1))).setCell ⟨gb228, 2, none⟩ (.int .i64 ((rd_T47 l0_0 x8_1).f2))).setCell ⟨gb228, 3, none⟩ (.int .i64 ((rd_T47 l0_0 x8_1).f3))).heap[gb225]? = some (.cells #[.slice (some ad227) l0_0.length c0_0, .slice A0_1 l0_1.length c0_1, .int .i64 a0_2] 25 (0, 0))) := ⟨by (with_reducible repeat (first | refine blk_drewN ?_ _ | refine blk_drew ?_ | refine blk_alloc ?_ _ | refine blk_far ?_ NB225_228.out _)); exact BK225.out⟩
        have n1_ : Aside0 (((((w38.setCell ⟨gb228, 0, none⟩ (.int .i64 ((rd_T47 l0_0 x8_1).f0))).setCell ⟨gb228, 1, none⟩ (.int .i64 ((rd_T47 l0_0 x8_1).f1))).setCell ⟨gb228, 2, none⟩ (.int .i64 ((rd_T47 l0_0 x8_1).f2))).setCell ⟨gb228, 3, none⟩ (.int .i64 ((rd_T47 l0_0 x8_1).f3))).heap[gb228]? = some (.cells #[.int .i64 ((rd_T47 l0_0 x8_1).f0), .int .i64 ((rd_T47 l0_0 x8_1).f1), .int .i64 ((rd_T47 l0_0 x8_1).f2), .int .i64 ((rd_T47 l0_0 x8_1).f3)] 47 (0, 0))) := ⟨by (with_reducible repeat (first | refine blk_drewN ?_ _ | refine blk_drew ?_ | refine blk_alloc ?_ _)); refine blk_put (cs := #[.int .i64 ((rd_T47 l0_0 x8_1).f0), .int .i64 ((rd_T47 l0_0 x8_1).f1), .int .i64 ((rd_T47 l0_0 x8_1).f2), .int .i64 0]) ?_ 3 _ rfl; (with_reducible repeat (first | refine blk_drewN ?_ _ | refine blk_drew ?_ | refine blk_alloc ?_ _)); refine blk_put (cs := #[.int .i64 ((rd_T47 l0_0 x8_1).f0), .int .i64 ((rd_T47 l0_0 x8_1).f1), .int .i64 0, .int .i64 0]) ?_ 2 _ rfl; (with_reducible repeat (first | refine blk_drewN ?_ _ | refine blk_drew ?_ | refine blk_alloc ?_ _)); refine blk_put (cs := #[.int .i64 ((rd_T47 l0_0 x8_1).f0), .int .i64 0, .int .i64 0, .int .i64 0]) ?_ 1 _ rfl; (with_reducible repeat (first | refine blk_drewN ?_ _ | refine blk_drew ?_ | refine blk_alloc ?_ _)); refine blk_put (cs := #[.int .i64 0, .int .i64 0, .int .i64 0, .int .i64 0]) ?_ 0 _ rfl; (with_reducible repeat (first | refine blk_drewN ?_ _ | refine blk_drew ?_ | refine blk_alloc ?_ _)); exact BK228.out⟩
        have n2_ : Aside0 (Below w.heap.size w ((((w38.setCell ⟨gb228, 0, none⟩ (.int .i64 ((rd_T47 l0_0 x8_1).f0))).setCell ⟨gb228, 1, none⟩ (.int .i64 ((rd_T47 l0_0 x8_1).f1))).setCell ⟨gb228, 2, none⟩ (.int .i64 ((rd_T47 l0_0 x8_1).f2))).setCell ⟨gb228, 3, none⟩ (.int .i64 ((rd_T47 l0_0 x8_1).f3)))) := ⟨by repeat (first | (with_reducible first | exact HB.out | apply below_alloc | apply pw_below_drewN | apply below_drew1 | refine below_set ?_ GE225.out | refine below_set ?_ GE228.out) | exact HB.out)⟩
        (try clear BK225)
        (try clear BK228)
        (try clear HB)
        generalize ((((w38.setCell ⟨gb228, 0, none⟩ (.int .i64 ((rd_T47 l0_0 x8_1).f0))).setCell ⟨gb228, 1, none⟩ (.int .i64 ((rd_T47 l0_0 x8_1).f1))).setCell ⟨gb228, 2, none⟩ (.int .i64 ((rd_T47 l0_0 x8_1).f2))).setCell ⟨gb228, 3, none⟩ (.int .i64 ((rd_T47 l0_0 x8_1).f3))) = w41 at n0_ n1_ n2_ ⊢
        have BK225 := n0_
        have BK228 := n1_
        have HB := n2_
        clear n0_ n1_ n2_
        have n0_ := Aside0.mk (blk_drew BK225.out)
        have n1_ := Aside0.mk (blk_drew BK228.out)
        have n2_ := Aside0.mk (below_drew1 HB.out)
        clear BK225
        clear BK228
        clear HB
        have BK225 := n0_
        have BK228 := n1_
        have HB := n2_
        clear n0_ n1_ n2_
        refine start_ (n := 21) (S := fun w' => w'.cell? ⟨gb228, 0, none⟩ = some (.int .i64 ((rd_T47 l0_0 x8_1).f0)) ∧ w'.cell? ⟨gb228, 1, none⟩ = some (.int .i64 ((rd_T47 l0_0 x8_1).f1)) ∧ w'.cell? ⟨gb228, 2, none⟩ = some (.int .i64 ((rd_T47 l0_0 x8_1).f2)) ∧ w'.cell? ⟨gb228, 3, none⟩ = some (.int .i64 ((rd_T47 l0_0 x8_1).f3))) (ds := []) z4f_m0 (by kernel_rfl) rfl rfl ⟨(blk_cell BK228.out 0).trans rfl, (blk_cell BK228.out 1).trans rfl, (blk_cell BK228.out 2).trans rfl, (blk_cell BK228.out 3).trans rfl⟩ (fun hHeld => ?_); refine with_tabW bound_Rate.tab8 bound_Rate.bits8 (fun HT_ HW_ => ?_)
        generalize w41.drew = w42 at BK225 BK228 HB hHeld ⊢
        refine z4f_u 0 27 z4f_m1 HT_ (v := ?_) (a' := ?_) rfl rfl (by kernel_rfl) (fun _ _ _ h => h) (Or.inl ⟨by rfl, ?_⟩) ?_ ?_
        rotate_left
        · intro w'; go_simp; with_reducible rfl
        rotate_left
        · simp only [Act.put, z4f_q1, z4f_q2, z4f_q3, i64_w, i32_w]; rfl
        refine take_ (i := 1) (N := some 28) (v := ?_) (a' := ?_) z4f_m2 rfl rfl (take_ofW HT_.out HW_.out (by kernel_rfl)) (fun _ _ _ h => h) (Or.inl ⟨by rfl, ?_⟩) hHeld ?_ ?_
        rotate_left
        ·
         rintro w' ⟨s0, s1, s2, s3⟩
         go_simp
         with_reducible rfl
        rotate_left
        · simp only [Act.put, z4f_q1, z4f_q2, z4f_q3, i64_w, i32_w]; rfl
        refine z4f_u 2 29 z4f_m3 HT_ (v := ?_) (a' := ?_) rfl rfl (by kernel_rfl) (fun _ _ _ h => h) (Or.inl ⟨by rfl, ?_⟩) ?_ ?_
        rotate_left
        · intro w'; go_simp; with_reducible rfl
        rotate_left
        · simp only [Act.put, z4f_q1, z4f_q2, z4f_q3, i64_w, i32_w]; rfl
        refine z4f_u 3 30 z4f_m4 HT_ (v := ?_) (a' := ?_) rfl rfl (by kernel_rfl) (fun _ _ _ h => h) (Or.inl ⟨by rfl, ?_⟩) ?_ ?_
        rotate_left
        · intro w'; go_simp; with_reducible rfl
        rotate_left
        · simp only [Act.put, z4f_q1, z4f_q2, z4f_q3, i64_w, i32_w]; rfl
        refine z4f_u 4 31 z4f_m5 HT_ (v := ?_) (a' := ?_) rfl rfl (by kernel_rfl) (fun _ _ _ h => h) (Or.inl ⟨by rfl, ?_⟩) ?_ ?_
        rotate_left
        · intro w'; go_simp; with_reducible rfl
        rotate_left
        · simp only [Act.put, z4f_q1, z4f_q2, z4f_q3, i64_w, i32_w]; rfl
        refine take_ (i := 5) (N := some 32) (v := ?_) (a' := ?_) z4f_m6 rfl rfl (take_ofW HT_.out HW_.out (by kernel_rfl)) (fun _ _ _ h => h) (Or.inl ⟨by rfl, ?_⟩) hHeld ?_ ?_
        rotate_left
        ·
         rintro w' ⟨s0, s1, s2, s3⟩
         go_simp
         with_reducible rfl
        rotate_left
        · simp only [Act.put, z4f_q1, z4f_q2, z4f_q3, i64_w, i32_w]; rfl
        refine z4f_u 6 33 z4f_m7 HT_ (v := ?_) (a' := ?_) rfl rfl (by kernel_rfl) (fun _ _ _ h => h) (Or.inl ⟨by rfl, ?_⟩) ?_ ?_
        rotate_left
        · intro w'; go_simp; with_reducible rfl
        rotate_left
        · simp only [Act.put, z4f_q1, z4f_q2, z4f_q3, i64_w, i32_w]; rfl
        refine z4f_u 7 34 z4f_m8 HT_ (v := ?_) (a' := ?_) rfl rfl (by kernel_rfl) (fun _ _ _ h => h) (Or.inl ⟨by rfl, ?_⟩) ?_ ?_
        rotate_left
        · intro w'; go_simp; with_reducible rfl
        rotate_left
        · simp only [Act.put, z4f_q1, z4f_q2, z4f_q3, i64_w, i32_w]; rfl
        refine z4f_u 8 35 z4f_m9 HT_ (v := ?_) (a' := ?_) rfl rfl (by kernel_rfl) (fun _ _ _ h => h) (Or.inl ⟨by rfl, ?_⟩) ?_ ?_
        rotate_left
        · intro w'; go_simp; with_reducible rfl
        rotate_left
        · simp only [Act.put, z4f_q1, z4f_q2, z4f_q3, i64_w, i32_w]; rfl
        refine z4f_u 9 36 z4f_m10 HT_ (v := undef) (a' := ?_) rfl rfl (by kernel_rfl) (fun _ _ _ h => h) (Or.inr ⟨by rfl, rfl⟩) ?_ ?_
        rotate_left
        · simp only [Act.put, z4f_q1, z4f_q2, z4f_q3, i64_w, i32_w]; rfl
        refine z4f_u 10 37 z4f_m11 HT_ (v := undef) (a' := ?_) rfl rfl (by kernel_rfl) (fun _ _ _ h => h) (Or.inr ⟨by rfl, rfl⟩) ?_ ?_
        rotate_left
        · simp only [Act.put, z4f_q1, z4f_q2, z4f_q3, i64_w, i32_w]; rfl
        refine z4f_u 11 38 z4f_m12 HT_ (v := undef) (a' := ?_) rfl rfl (by kernel_rfl) (fun _ _ _ h => h) (Or.inr ⟨by rfl, rfl⟩) ?_ ?_
        rotate_left
        · simp only [Act.put, z4f_q1, z4f_q2, z4f_q3, i64_w, i32_w]; rfl
        refine z4f_u 12 39 z4f_m13 HT_ (v := undef) (a' := ?_) rfl rfl (by kernel_rfl) (fun _ _ _ h => h) (Or.inr ⟨by rfl, rfl⟩) ?_ ?_
        rotate_left
        · simp only [Act.put, z4f_q1, z4f_q2, z4f_q3, i64_w, i32_w]; rfl
        refine z4f_u 13 40 z4f_m14 HT_ (v := undef) (a' := ?_) rfl rfl (by kernel_rfl) (fun _ _ _ h => h) (Or.inr ⟨by rfl, rfl⟩) ?_ ?_
        rotate_left
        · simp only [Act.put, z4f_q1, z4f_q2, z4f_q3, i64_w, i32_w]; rfl
        refine z4f_u 14 41 z4f_m15 HT_ (v := undef) (a' := ?_) rfl rfl (by kernel_rfl) (fun _ _ _ h => h) (Or.inr ⟨by rfl, rfl⟩) ?_ ?_
        rotate_left
        · simp only [Act.put, z4f_q1, z4f_q2, z4f_q3, i64_w, i32_w]; rfl
        refine z4f_u 15 42 z4f_m16 HT_ (v := undef) (a' := ?_) rfl rfl (by kernel_rfl) (fun _ _ _ h => h) (Or.inr ⟨by rfl, rfl⟩) ?_ ?_
        rotate_left
        · simp only [Act.put, z4f_q1, z4f_q2, z4f_q3, i64_w, i32_w]; rfl
        refine z4f_u 16 43 z4f_m17 HT_ (v := undef) (a' := ?_) rfl rfl (by kernel_rfl) (fun _ _ _ h => h) (Or.inr ⟨by rfl, rfl⟩) ?_ ?_
        rotate_left
        · simp only [Act.put, z4f_q1, z4f_q2, z4f_q3, i64_w, i32_w]; rfl
        refine z4f_u 17 44 z4f_m18 HT_ (v := undef) (a' := ?_) rfl rfl (by kernel_rfl) (fun _ _ _ h => h) (Or.inr ⟨by rfl, rfl⟩) ?_ ?_
        rotate_left
        · simp only [Act.put, z4f_q1, z4f_q2, z4f_q3, i64_w, i32_w]; rfl
        refine z4f_u 18 45 z4f_m19 HT_ (v := undef) (a' := ?_) rfl rfl (by kernel_rfl) (fun _ _ _ h => h) (Or.inr ⟨by rfl, rfl⟩) ?_ ?_
        rotate_left
        · simp only [Act.put, z4f_q1, z4f_q2, z4f_q3, i64_w, i32_w]; rfl
        refine z4f_u 19 46 z4f_m20 HT_ (v := undef) (a' := ?_) rfl rfl (by kernel_rfl) (fun _ _ _ h => h) (Or.inr ⟨by rfl, rfl⟩) ?_ ?_
        rotate_left
        · simp only [Act.put, z4f_q1, z4f_q2, z4f_q3, i64_w, i32_w]; rfl
        refine z4f_u 20 47 z4f_m21 HT_ (v := ?_) (a' := ?_) rfl rfl (by kernel_rfl) (fun _ _ _ h => h) (Or.inl ⟨by rfl, ?_⟩) ?_ ?_
        rotate_left
        · intro w'; go_simp; with_reducible rfl
        rotate_left
        · simp only [Act.put, z4f_q1, z4f_q2, z4f_q3, i64_w, i32_w]; rfl
        refine done_ (done_of HT_.out (by kernel_rfl)) ?_
        try go_wp2
        go_roundg k1
        case measure => have := HK1.out; omega
        case rel => exact ⟨(x7_1), (wrap64 (x8_1 + 1)), (by first | rfl | (simp; done) | (simp [*]; done) | (simp [wrap64]; done) | (simp [wrap64]; omega)), (by first | rfl | (simp; done) | (simp [*]; done) | (simp [wrap64]; done) | (simp [wrap64]; omega)), H', ⟨by have := HK1.out; omega⟩, ⟨by (with_reducible repeat (first | refine blk_drewN ?_ _ | refine blk_drew ?_ | refine blk_alloc ?_ _)); exact BK225.out⟩, ⟨by repeat (first | (with_reducible first | exact HB.out | apply below_alloc | apply pw_below_drewN | apply below_drew1 | refine below_set ?_ GE225.out | refine below_set ?_ GE228.out) | exact HB.out)⟩⟩
      ·
       rw [if_neg c10] at H
       have c10b0 : decide (0 < ((rd_T47 l0_0 x8_1).f1)) = false := decide_eq_false c10
       clear c10
       have H' := Aside0.mk H
       clear H
       have hcz43_0 : wr.cell? ⟨gb225, 0, none⟩ = some (.slice A0_0 l0_0.length c0_0) := (blk_cell BK225.out 0).trans rfl
       have hcz43_1 : wr.cell? ⟨gb225, 1, none⟩ = some (.slice A0_1 l0_1.length c0_1) := (blk_cell BK225.out 1).trans rfl
       have hcz43_2 : wr.cell? ⟨gb225, 2, none⟩ = some (.int .i64 a0_2) := (blk_cell BK225.out 2).trans rfl
       have hfz43_0 := blk_frozen BK225.out 0
       have hfz43_1 := blk_frozen BK225.out 1
       have hfz43_2 := blk_frozen BK225.out 2
       have p227 : 0 ≤ (x8_1 : Int) := of_decide_eq_true (by first | (with_reducible assumption) | assumption)
       have q227 : x8_1 < (l0_0.length : Int) := of_decide_eq_true (by first | (with_reducible assumption) | assumption)
       obtain ⟨ad227, e227, hx227_0, hx227_1, hx227_2, hx227_3⟩ := at_T47 HR0_0.out x8_1 p227 q227
       cases e227
       replace hx227_0 := (HB.out.cell (World.block_lt_of_cell? w _ hx227_0)).trans hx227_0
       replace hx227_1 := (HB.out.cell (World.block_lt_of_cell? w _ hx227_1)).trans hx227_1
       replace hx227_2 := (HB.out.cell (World.block_lt_of_cell? w _ hx227_2)).trans hx227_2
       replace hx227_3 := (HB.out.cell (World.block_lt_of_cell? w _ hx227_3)).trans hx227_3
       replace p227 := eq_true p227
       replace q227 := eq_true q227
       try go_wp2_with (first | ((with_reducible refine gate_dst (N := 9) rfl ?_); refine box_event ?hg (N := 9) ?hd (cs := #[.int .i64 0, .int .i64 0, .int .i64 0, .int .i64 0]) (t := 47) ?hr ?_; (case hd => rfl); (case hg => rfl); (case hr => first | (go_simp; done) | (go_simp; rfl)); intro gb228 hg w44 hbox hb; have n0_ := Aside0.mk (blk_below (g := gb225) (o := .cells #[.slice (some ad227) l0_0.length c0_0, .slice A0_1 l0_1.length c0_1, .int .i64 a0_2] 25 (0, 0)) (by (with_reducible repeat (first | refine blk_drewN ?_ _ | refine blk_drew ?_ | refine blk_alloc ?_ _)); exact BK225.out) hb); have n1_ := Aside0.mk (below_step (by repeat (first | (with_reducible first | exact HB.out | apply below_alloc | apply pw_below_drewN | apply below_drew1 | refine below_set ?_ GE225.out) | exact HB.out)) hb); have n2_ := Aside0.mk (hbox); have n3_ := Aside0.mk ((by rw [hg]; exact (below_size (by repeat (first | (with_reducible first | exact HB.out | apply below_alloc | apply pw_below_drewN | apply below_drew1 | refine below_set ?_ GE225.out) | exact HB.out))) : w.heap.size ≤ gb228)); have n4_ := Aside0.mk ((by rw [hg]; exact (below_size (by repeat (first | (with_reducible first | exact HB.out | apply below_alloc | apply pw_below_drewN | apply below_drew1 | refine below_set ?_ GE225.out) | exact HB.out))) : w.heap.size ≤ gb228)); have n5_ := Aside0.mk ((by rw [hg]; exact Nat.ne_of_lt (blk_lt (g := gb225) (o := .cells #[.slice (some ad227) l0_0.length c0_0, .slice A0_1 l0_1.length c0_1, .int .i64 a0_2] 25 (0, 0)) (by (with_reducible repeat (first | refine blk_drewN ?_ _ | refine blk_drew ?_ | refine blk_alloc ?_ _)); exact BK225.out)) : gb225 ≠ gb228)); have n6_ := Aside0.mk ((by rw [hg]; exact Nat.ne_of_gt (blk_lt (g := gb225) (o := .cells #[.slice (some ad227) l0_0.length c0_0, .slice A0_1 l0_1.length c0_1, .int .i64 a0_2] 25 (0, 0)) (by (with_reducible repeat (first | refine blk_drewN ?_ _ | refine blk_drew ?_ | refine blk_alloc ?_ _)); exact BK225.out)) : gb228 ≠ gb225)); clear BK225; clear HB; have BK225 := n0_; have HB := n1_; have BK228 := n2_; have GW228 := n3_; have GE228 := n4_; have NB225_228 := n5_; have NB228_225 := n6_; clear n0_ n1_ n2_ n3_ n4_ n5_ n6_; clear hb hbox hg; have hnb45 := NB228_225.out; have hnc45 := NB225_228.out; have hcz46_0 : w44.cell? ⟨gb228, 0, none⟩ = some (.int .i64 0) := (blk_cell BK228.out 0).trans rfl; have hcz46_1 : w44.cell? ⟨gb228, 1, none⟩ = some (.int .i64 0) := (blk_cell BK228.out 1).trans rfl; have hcz46_2 : w44.cell? ⟨gb228, 2, none⟩ = some (.int .i64 0) := (blk_cell BK228.out 2).trans rfl; have hcz46_3 : w44.cell? ⟨gb228, 3, none⟩ = some (.int .i64 0) := (blk_cell BK228.out 3).trans rfl; have hfz46_0 := blk_frozen BK228.out 0; have hfz46_1 := blk_frozen BK228.out 1; have hfz46_2 := blk_frozen BK228.out 2; have hfz46_3 := blk_frozen BK228.out 3))
       have n0_ : Aside0 (((((w44.setCell ⟨gb228, 0, none⟩ (.int .i64 ((rd_T47 l0_0 x8_1).f0))).setCell ⟨gb228, 1, none⟩ (.int .i64 ((rd_T47 l0_0 x8_1).f1))).setCell ⟨gb228, 2, none⟩ (.int .i64 ((rd_T47 l0_0 x8_1).f2))).setCell ⟨gb228, 3, none⟩ (.int .i64 ((rd_T47 l0_0 x8_1).f3))).heap[gb225]? = some (.cells #[.slice (some ad227) l0_0.length c0_0, .slice A0_1 l0_1.length c0_1, .int .i64 a0_2] 25 (0, 0))) := ⟨by (with_reducible repeat (first | refine blk_drewN ?_ _ | refine blk_drew ?_ | refine blk_alloc ?_ _ | refine blk_far ?_ NB225_228.out _)); exact BK225.out⟩
       have n1_ : Aside0 (((((w44.setCell ⟨gb228, 0, none⟩ (.int .i64 ((rd_T47 l0_0 x8_1).f0))).setCell ⟨gb228, 1, none⟩ (.int .i64 ((rd_T47 l0_0 x8_1).f1))).setCell ⟨gb228, 2, none⟩ (.int .i64 ((rd_T47 l0_0 x8_1).f2))).setCell ⟨gb228, 3, none⟩ (.int .i64 ((rd_T47 l0_0 x8_1).f3))).heap[gb228]? = some (.cells #[.int .i64 ((rd_T47 l0_0 x8_1).f0), .int .i64 ((rd_T47 l0_0 x8_1).f1), .int .i64 ((rd_T47 l0_0 x8_1).f2), .int .i64 ((rd_T47 l0_0 x8_1).f3)] 47 (0, 0))) := ⟨by (with_reducible repeat (first | refine blk_drewN ?_ _ | refine blk_drew ?_ | refine blk_alloc ?_ _)); refine blk_put (cs := #[.int .i64 ((rd_T47 l0_0 x8_1).f0), .int .i64 ((rd_T47 l0_0 x8_1).f1), .int .i64 ((rd_T47 l0_0 x8_1).f2), .int .i64 0]) ?_ 3 _ rfl; (with_reducible repeat (first | refine blk_drewN ?_ _ | refine blk_drew ?_ | refine blk_alloc ?_ _)); refine blk_put (cs := #[.int .i64 ((rd_T47 l0_0 x8_1).f0), .int .i64 ((rd_T47 l0_0 x8_1).f1), .int .i64 0, .int .i64 0]) ?_ 2 _ rfl; (with_reducible repeat (first | refine blk_drewN ?_ _ | refine blk_drew ?_ | refine blk_alloc ?_ _)); refine blk_put (cs := #[.int .i64 ((rd_T47 l0_0 x8_1).f0), .int .i64 0, .int .i64 0, .int .i64 0]) ?_ 1 _ rfl; (with_reducible repeat (first | refine blk_drewN ?_ _ | refine blk_drew ?_ | refine blk_alloc ?_ _)); refine blk_put (cs := #[.int .i64 0, .int .i64 0, .int .i64 0, .int .i64 0]) ?_ 0 _ rfl; (with_reducible repeat (first | refine blk_drewN ?_ _ | refine blk_drew ?_ | refine blk_alloc ?_ _)); exact BK228.out⟩
       have n2_ : Aside0 (Below w.heap.size w ((((w44.setCell ⟨gb228, 0, none⟩ (.int .i64 ((rd_T47 l0_0 x8_1).f0))).setCell ⟨gb228, 1, none⟩ (.int .i64 ((rd_T47 l0_0 x8_1).f1))).setCell ⟨gb228, 2, none⟩ (.int .i64 ((rd_T47 l0_0 x8_1).f2))).setCell ⟨gb228, 3, none⟩ (.int .i64 ((rd_T47 l0_0 x8_1).f3)))) := ⟨by repeat (first | (with_reducible first | exact HB.out | apply below_alloc | apply pw_below_drewN | apply below_drew1 | refine below_set ?_ GE225.out | refine below_set ?_ GE228.out) | exact HB.out)⟩
       (try clear BK225)
       (try clear BK228)
       (try clear HB)
       generalize ((((w44.setCell ⟨gb228, 0, none⟩ (.int .i64 ((rd_T47 l0_0 x8_1).f0))).setCell ⟨gb228, 1, none⟩ (.int .i64 ((rd_T47 l0_0 x8_1).f1))).setCell ⟨gb228, 2, none⟩ (.int .i64 ((rd_T47 l0_0 x8_1).f2))).setCell ⟨gb228, 3, none⟩ (.int .i64 ((rd_T47 l0_0 x8_1).f3))) = w47 at n0_ n1_ n2_ ⊢
       have BK225 := n0_
       have BK228 := n1_
       have HB := n2_
       clear n0_ n1_ n2_
       have n0_ := Aside0.mk (blk_drew BK225.out)
       have n1_ := Aside0.mk (blk_drew BK228.out)
       have n2_ := Aside0.mk (below_drew1 HB.out)
       clear BK225
       clear BK228
       clear HB
       have BK225 := n0_
       have BK228 := n1_
       have HB := n2_
       clear n0_ n1_ n2_
       refine start_ (n := 21) (S := fun w' => w'.cell? ⟨gb228, 0, none⟩ = some (.int .i64 ((rd_T47 l0_0 x8_1).f0)) ∧ w'.cell? ⟨gb228, 1, none⟩ = some (.int .i64 ((rd_T47 l0_0 x8_1).f1)) ∧ w'.cell? ⟨gb228, 2, none⟩ = some (.int .i64 ((rd_T47 l0_0 x8_1).f2)) ∧ w'.cell? ⟨gb228, 3, none⟩ = some (.int .i64 ((rd_T47 l0_0 x8_1).f3))) (ds := []) z4f_m0 (by kernel_rfl) rfl rfl ⟨(blk_cell BK228.out 0).trans rfl, (blk_cell BK228.out 1).trans rfl, (blk_cell BK228.out 2).trans rfl, (blk_cell BK228.out 3).trans rfl⟩ (fun hHeld => ?_); refine with_tabW bound_Rate.tab8 bound_Rate.bits8 (fun HT_ HW_ => ?_)
       generalize w47.drew = w48 at BK225 BK228 HB hHeld ⊢
       refine z4f_u 0 27 z4f_m1 HT_ (v := ?_) (a' := ?_) rfl rfl (by kernel_rfl) (fun _ _ _ h => h) (Or.inl ⟨by rfl, ?_⟩) ?_ ?_
       rotate_left
       · intro w'; go_simp; with_reducible rfl
       rotate_left
       · simp only [Act.put, z4f_q1, z4f_q2, z4f_q3, i64_w, i32_w]; rfl
       refine take_ (i := 1) (N := some 28) (v := ?_) (a' := ?_) z4f_m2 rfl rfl (take_ofW HT_.out HW_.out (by kernel_rfl)) (fun _ _ _ h => h) (Or.inl ⟨by rfl, ?_⟩) hHeld ?_ ?_
       rotate_left
       ·
        rintro w' ⟨s0, s1, s2, s3⟩
        go_simp
        with_reducible rfl
       rotate_left
       · simp only [Act.put, z4f_q1, z4f_q2, z4f_q3, i64_w, i32_w]; rfl
       refine z4f_u 2 29 z4f_m3 HT_ (v := ?_) (a' := ?_) rfl rfl (by kernel_rfl) (fun _ _ _ h => h) (Or.inl ⟨by rfl, ?_⟩) ?_ ?_
       rotate_left
       · intro w'; go_simp; with_reducible rfl
       rotate_left
       · simp only [Act.put, z4f_q1, z4f_q2, z4f_q3, i64_w, i32_w]; rfl
       refine z4f_u 3 30 z4f_m4 HT_ (v := ?_) (a' := ?_) rfl rfl (by kernel_rfl) (fun _ _ _ h => h) (Or.inl ⟨by rfl, ?_⟩) ?_ ?_
       rotate_left
       · intro w'; go_simp; with_reducible rfl
       rotate_left
       · simp only [Act.put, z4f_q1, z4f_q2, z4f_q3, i64_w, i32_w]; rfl
       refine z4f_u 4 31 z4f_m5 HT_ (v := undef) (a' := ?_) rfl rfl (by kernel_rfl) (fun _ _ _ h => h) (Or.inr ⟨by rfl, rfl⟩) ?_ ?_
       rotate_left
       · simp only [Act.put, z4f_q1, z4f_q2, z4f_q3, i64_w, i32_w]; rfl
       refine z4f_u 5 32 z4f_m6 HT_ (v := undef) (a' := ?_) rfl rfl (by kernel_rfl) (fun _ _ _ h => h) (Or.inr ⟨by rfl, rfl⟩) ?_ ?_
       rotate_left
       · simp only [Act.put, z4f_q1, z4f_q2, z4f_q3, i64_w, i32_w]; rfl
       refine z4f_u 6 33 z4f_m7 HT_ (v := undef) (a' := ?_) rfl rfl (by kernel_rfl) (fun _ _ _ h => h) (Or.inr ⟨by rfl, rfl⟩) ?_ ?_
       rotate_left
       · simp only [Act.put, z4f_q1, z4f_q2, z4f_q3, i64_w, i32_w]; rfl
       refine z4f_u 7 34 z4f_m8 HT_ (v := ?_) (a' := ?_) rfl rfl (by kernel_rfl) (fun _ _ _ h => h) (Or.inl ⟨by rfl, ?_⟩) ?_ ?_
       rotate_left
       · intro w'; go_simp; with_reducible rfl
       rotate_left
       · simp only [Act.put, z4f_q1, z4f_q2, z4f_q3, i64_w, i32_w]; rfl
       refine z4f_u 8 35 z4f_m9 HT_ (v := ?_) (a' := ?_) rfl rfl (by kernel_rfl) (fun _ _ _ h => h) (Or.inl ⟨by rfl, ?_⟩) ?_ ?_
       rotate_left
       · intro w'; go_simp; with_reducible rfl
       rotate_left
       · simp only [Act.put, z4f_q1, z4f_q2, z4f_q3, i64_w, i32_w]; rfl
       refine z4f_u 9 36 z4f_m10 HT_ (v := undef) (a' := ?_) rfl rfl (by kernel_rfl) (fun _ _ _ h => h) (Or.inr ⟨by rfl, rfl⟩) ?_ ?_
       rotate_left
       · simp only [Act.put, z4f_q1, z4f_q2, z4f_q3, i64_w, i32_w]; rfl
       refine z4f_u 10 37 z4f_m11 HT_ (v := undef) (a' := ?_) rfl rfl (by kernel_rfl) (fun _ _ _ h => h) (Or.inr ⟨by rfl, rfl⟩) ?_ ?_
       rotate_left
       · simp only [Act.put, z4f_q1, z4f_q2, z4f_q3, i64_w, i32_w]; rfl
       refine z4f_u 11 38 z4f_m12 HT_ (v := undef) (a' := ?_) rfl rfl (by kernel_rfl) (fun _ _ _ h => h) (Or.inr ⟨by rfl, rfl⟩) ?_ ?_
       rotate_left
       · simp only [Act.put, z4f_q1, z4f_q2, z4f_q3, i64_w, i32_w]; rfl
       refine z4f_u 12 39 z4f_m13 HT_ (v := undef) (a' := ?_) rfl rfl (by kernel_rfl) (fun _ _ _ h => h) (Or.inr ⟨by rfl, rfl⟩) ?_ ?_
       rotate_left
       · simp only [Act.put, z4f_q1, z4f_q2, z4f_q3, i64_w, i32_w]; rfl
       refine z4f_u 13 40 z4f_m14 HT_ (v := undef) (a' := ?_) rfl rfl (by kernel_rfl) (fun _ _ _ h => h) (Or.inr ⟨by rfl, rfl⟩) ?_ ?_
       rotate_left
       · simp only [Act.put, z4f_q1, z4f_q2, z4f_q3, i64_w, i32_w]; rfl
       refine z4f_u 14 41 z4f_m15 HT_ (v := undef) (a' := ?_) rfl rfl (by kernel_rfl) (fun _ _ _ h => h) (Or.inr ⟨by rfl, rfl⟩) ?_ ?_
       rotate_left
       · simp only [Act.put, z4f_q1, z4f_q2, z4f_q3, i64_w, i32_w]; rfl
       refine z4f_u 15 42 z4f_m16 HT_ (v := undef) (a' := ?_) rfl rfl (by kernel_rfl) (fun _ _ _ h => h) (Or.inr ⟨by rfl, rfl⟩) ?_ ?_
       rotate_left
       · simp only [Act.put, z4f_q1, z4f_q2, z4f_q3, i64_w, i32_w]; rfl
       refine z4f_u 16 43 z4f_m17 HT_ (v := undef) (a' := ?_) rfl rfl (by kernel_rfl) (fun _ _ _ h => h) (Or.inr ⟨by rfl, rfl⟩) ?_ ?_
       rotate_left
       · simp only [Act.put, z4f_q1, z4f_q2, z4f_q3, i64_w, i32_w]; rfl
       refine z4f_u 17 44 z4f_m18 HT_ (v := undef) (a' := ?_) rfl rfl (by kernel_rfl) (fun _ _ _ h => h) (Or.inr ⟨by rfl, rfl⟩) ?_ ?_
       rotate_left
       · simp only [Act.put, z4f_q1, z4f_q2, z4f_q3, i64_w, i32_w]; rfl
       refine z4f_u 18 45 z4f_m19 HT_ (v := undef) (a' := ?_) rfl rfl (by kernel_rfl) (fun _ _ _ h => h) (Or.inr ⟨by rfl, rfl⟩) ?_ ?_
       rotate_left
       · simp only [Act.put, z4f_q1, z4f_q2, z4f_q3, i64_w, i32_w]; rfl
       refine z4f_u 19 46 z4f_m20 HT_ (v := undef) (a' := ?_) rfl rfl (by kernel_rfl) (fun _ _ _ h => h) (Or.inr ⟨by rfl, rfl⟩) ?_ ?_
       rotate_left
       · simp only [Act.put, z4f_q1, z4f_q2, z4f_q3, i64_w, i32_w]; rfl
       refine z4f_u 20 47 z4f_m21 HT_ (v := ?_) (a' := ?_) rfl rfl (by kernel_rfl) (fun _ _ _ h => h) (Or.inl ⟨by rfl, ?_⟩) ?_ ?_
       rotate_left
       · intro w'; go_simp; with_reducible rfl
       rotate_left
       · simp only [Act.put, z4f_q1, z4f_q2, z4f_q3, i64_w, i32_w]; rfl
       refine done_ (done_of HT_.out (by kernel_rfl)) ?_
       try go_wp2
       go_roundg k1
       case measure => have := HK1.out; omega
       case rel => exact ⟨(x7_1), (wrap64 (x8_1 + 1)), (by first | rfl | (simp; done) | (simp [*]; done) | (simp [wrap64]; done) | (simp [wrap64]; omega)), (by first | rfl | (simp; done) | (simp [*]; done) | (simp [wrap64]; done) | (simp [wrap64]; omega)), H', ⟨by have := HK1.out; omega⟩, ⟨by (with_reducible repeat (first | refine blk_drewN ?_ _ | refine blk_drew ?_ | refine blk_alloc ?_ _)); exact BK225.out⟩, ⟨by repeat (first | (with_reducible first | exact HB.out | apply below_alloc | apply pw_below_drewN | apply below_drew1 | refine below_set ?_ GE225.out | refine below_set ?_ GE228.out) | exact HB.out)⟩⟩
     ·
      rw [if_neg c9] at H
      exact absurd H (by simp)
    ·
     rw [if_neg c8] at H
     have c8b0 : decide (x8_1 < (l0_0.length : Int)) = false := decide_eq_false c8
     clear c8
     by_cases c49 : x7_1 < 0
     ·
      rw [if_pos c49] at H
      have c49b0 : decide (x7_1 < 0) = true := decide_eq_true c49
      clear c49
      simp only [Option.some.injEq, Prod.mk.injEq] at H
      obtain ⟨rfl, rfl, rfl⟩ := H
      have hcz50_0 : wr.cell? ⟨gb225, 0, none⟩ = some (.slice A0_0 l0_0.length c0_0) := (blk_cell BK225.out 0).trans rfl
      have hcz50_1 : wr.cell? ⟨gb225, 1, none⟩ = some (.slice A0_1 l0_1.length c0_1) := (blk_cell BK225.out 1).trans rfl
      have hcz50_2 : wr.cell? ⟨gb225, 2, none⟩ = some (.int .i64 a0_2) := (blk_cell BK225.out 2).trans rfl
      have hfz50_0 := blk_frozen BK225.out 0
      have hfz50_1 := blk_frozen BK225.out 1
      have hfz50_2 := blk_frozen BK225.out 2
      go_wp2
      go_ret3
      exact ⟨by first | rfl | (simp [errW_none, errW_some] <;> rfl) | (exfalso; simp_all; done) | (simp [*, errW_none, errW_some] <;> rfl), by repeat (first | (with_reducible first | exact HB.out | apply below_alloc | apply pw_below_drewN | apply below_drew1 | refine below_set ?_ GE225.out) | exact HB.out)⟩
     ·
      rw [if_neg c49] at H
      have c49b0 : decide (x7_1 < 0) = false := decide_eq_false c49
      clear c49
      by_cases c51 : 0 ≤ x7_1
      ·
       rw [if_pos c51] at H
       have c51b0 : decide (0 ≤ x7_1) = true := decide_eq_true c51
       clear c51
       by_cases c52 : x7_1 < (l0_0.length : Int)
       ·
        rw [if_pos c52] at H
        have c52b0 : decide (x7_1 < (l0_0.length : Int)) = true := decide_eq_true c52
        clear c52
        simp only [Option.some.injEq, Prod.mk.injEq] at H
        obtain ⟨rfl, rfl, rfl⟩ := H
        have hcz53_0 : wr.cell? ⟨gb225, 0, none⟩ = some (.slice A0_0 l0_0.length c0_0) := (blk_cell BK225.out 0).trans rfl
        have hcz53_1 : wr.cell? ⟨gb225, 1, none⟩ = some (.slice A0_1 l0_1.length c0_1) := (blk_cell BK225.out 1).trans rfl
        have hcz53_2 : wr.cell? ⟨gb225, 2, none⟩ = some (.int .i64 a0_2) := (blk_cell BK225.out 2).trans rfl
        have hfz53_0 := blk_frozen BK225.out 0
        have hfz53_1 := blk_frozen BK225.out 1
        have hfz53_2 := blk_frozen BK225.out 2
        try go_wp2
        have n0_ := Aside0.mk (blk_drew BK225.out)
        have n1_ := Aside0.mk (below_drew1 HB.out)
        clear BK225
        clear HB
        have BK225 := n0_
        have HB := n1_
        clear n0_ n1_
        have p231 : 0 ≤ (x7_1 : Int) := of_decide_eq_true (by first | (with_reducible assumption) | assumption)
        have q231 : x7_1 < (l0_0.length : Int) := of_decide_eq_true (by first | (with_reducible assumption) | assumption)
        obtain ⟨ad231, e231, hx231_0, hx231_1, hx231_2, hx231_3⟩ := at_T47 HR0_0.out x7_1 p231 q231
        have hw231_3 := hx231_3
        have hw231_2 := hx231_2
        have hw231_1 := hx231_1
        have hw231_0 := hx231_0
        cases e231
        replace hx231_0 := (HB.out.cell (World.block_lt_of_cell? w _ hx231_0)).trans hx231_0
        replace hx231_1 := (HB.out.cell (World.block_lt_of_cell? w _ hx231_1)).trans hx231_1
        replace hx231_2 := (HB.out.cell (World.block_lt_of_cell? w _ hx231_2)).trans hx231_2
        replace hx231_3 := (HB.out.cell (World.block_lt_of_cell? w _ hx231_3)).trans hx231_3
        replace p231 := eq_true p231
        replace q231 := eq_true q231
        have p232 : 0 ≤ (x7_1 : Int) := of_decide_eq_true (by first | (with_reducible assumption) | assumption)
        have q232 : x7_1 < (l0_0.length : Int) := of_decide_eq_true (by first | (with_reducible assumption) | assumption)
        obtain ⟨ad232, e232, hx232_0, hx232_1, hx232_2, hx232_3⟩ := at_T47 HR0_0.out x7_1 p232 q232
        have hw232_3 := hx232_3
        have hw232_2 := hx232_2
        have hw232_1 := hx232_1
        have hw232_0 := hx232_0
        obtain rfl : ad231 = ad232 := (by injection e232)
        replace hx232_0 := (HB.out.cell (World.block_lt_of_cell? w _ hx232_0)).trans hx232_0
        replace hx232_1 := (HB.out.cell (World.block_lt_of_cell? w _ hx232_1)).trans hx232_1
        replace hx232_2 := (HB.out.cell (World.block_lt_of_cell? w _ hx232_2)).trans hx232_2
        replace hx232_3 := (HB.out.cell (World.block_lt_of_cell? w _ hx232_3)).trans hx232_3
        replace p232 := eq_true p232
        replace q232 := eq_true q232
        refine start_ (n := 15) (S := fun w' => w'.cell? ⟨gb225, 0, none⟩ = some (.slice (some ad231) l0_0.length c0_0) ∧ w'.cell? ⟨gb225, 1, none⟩ = some (.slice A0_1 l0_1.length c0_1) ∧ w'.cell? ⟨gb225, 2, none⟩ = some (.int .i64 a0_2) ∧ w'.cell? (ad231.add ((x7_1).toNat * 4)) = some (.int .i64 ((rd_T47 l0_0 x7_1).f0)) ∧ w'.cell? ⟨(ad231.add ((x7_1).toNat * 4)).block, (ad231.add ((x7_1).toNat * 4)).off + 1, none⟩ = some (.int .i64 ((rd_T47 l0_0 x7_1).f1)) ∧ w'.cell? ⟨(ad231.add ((x7_1).toNat * 4)).block, (ad231.add ((x7_1).toNat * 4)).off + 2, none⟩ = some (.int .i64 ((rd_T47 l0_0 x7_1).f2)) ∧ w'.cell? ⟨(ad231.add ((x7_1).toNat * 4)).block, (ad231.add ((x7_1).toNat * 4)).off + 3, none⟩ = some (.int .i64 ((rd_T47 l0_0 x7_1).f3)) ∧ w'.cell? (ad231.add ((x7_1).toNat * 4)) = some (.int .i64 ((rd_T47 l0_0 x7_1).f0)) ∧ w'.cell? ⟨(ad231.add ((x7_1).toNat * 4)).block, (ad231.add ((x7_1).toNat * 4)).off + 1, none⟩ = some (.int .i64 ((rd_T47 l0_0 x7_1).f1)) ∧ w'.cell? ⟨(ad231.add ((x7_1).toNat * 4)).block, (ad231.add ((x7_1).toNat * 4)).off + 2, none⟩ = some (.int .i64 ((rd_T47 l0_0 x7_1).f2)) ∧ w'.cell? ⟨(ad231.add ((x7_1).toNat * 4)).block, (ad231.add ((x7_1).toNat * 4)).off + 3, none⟩ = some (.int .i64 ((rd_T47 l0_0 x7_1).f3))) (ds := []) z4f_m25 (by kernel_rfl) rfl rfl ⟨(blk_cell BK225.out 0).trans rfl, (blk_cell BK225.out 1).trans rfl, (blk_cell BK225.out 2).trans rfl, ((HB.out.cell (World.block_lt_of_cell? w _ hw231_0)).trans hw231_0), ((HB.out.cell (World.block_lt_of_cell? w _ hw231_1)).trans hw231_1), ((HB.out.cell (World.block_lt_of_cell? w _ hw231_2)).trans hw231_2), ((HB.out.cell (World.block_lt_of_cell? w _ hw231_3)).trans hw231_3), ((HB.out.cell (World.block_lt_of_cell? w _ hw232_0)).trans hw232_0), ((HB.out.cell (World.block_lt_of_cell? w _ hw232_1)).trans hw232_1), ((HB.out.cell (World.block_lt_of_cell? w _ hw232_2)).trans hw232_2), ((HB.out.cell (World.block_lt_of_cell? w _ hw232_3)).trans hw232_3)⟩ (fun hHeld => ?_); refine with_tabW bound_Rate.tab12 bound_Rate.bits12 (fun HT_ HW_ => ?_)
        generalize wr.drew = w54 at BK225 HB hx231_0 hx231_1 hx231_2 hx231_3 hx232_0 hx232_1 hx232_2 hx232_3 hHeld ⊢
        refine z4f_u 0 51 z4f_m26 HT_ (v := ?_) (a' := ?_) rfl rfl (by kernel_rfl) (fun _ _ _ h => h) (Or.inl ⟨by rfl, ?_⟩) ?_ ?_
        rotate_left
        · intro w'; go_simp; with_reducible rfl
        rotate_left
        · simp only [Act.put, z4f_q1, z4f_q2, z4f_q3, i64_w, i32_w]; rfl
        refine z4f_u 2 53 z4f_m27 HT_ (v := ?_) (a' := ?_) rfl rfl (by kernel_rfl) (fun _ _ _ h => h) (Or.inl ⟨by rfl, ?_⟩) ?_ ?_
        rotate_left
        · intro w'; go_simp; with_reducible rfl
        rotate_left
        · simp only [Act.put, z4f_q1, z4f_q2, z4f_q3, i64_w, i32_w]; rfl
        refine z4f_u 6 57 z4f_m28 HT_ (v := ?_) (a' := ?_) rfl rfl (by kernel_rfl) (fun _ _ _ h => h) (Or.inl ⟨by rfl, ?_⟩) ?_ ?_
        rotate_left
        · intro w'; go_simp; with_reducible rfl
        rotate_left
        · simp only [Act.put, z4f_q1, z4f_q2, z4f_q3, i64_w, i32_w]; rfl
        refine z4f_u 8 59 z4f_m29 HT_ (v := ?_) (a' := ?_) rfl rfl (by kernel_rfl) (fun _ _ _ h => h) (Or.inl ⟨by rfl, ?_⟩) ?_ ?_
        rotate_left
        · intro w'; go_simp; with_reducible rfl
        rotate_left
        · simp only [Act.put, z4f_q1, z4f_q2, z4f_q3, i64_w, i32_w]; rfl
        refine take_ (i := 1) (N := some 52) (v := ?_) (a' := ?_) z4f_m30 rfl rfl (take_ofW HT_.out HW_.out (by kernel_rfl)) (fun _ _ _ h => h) (Or.inl ⟨by rfl, ?_⟩) hHeld ?_ ?_
        rotate_left
        ·
         rintro w' ⟨s0, s1, s2, s3, s4, s5, s6, s7, s8, s9, s10⟩
         go_simp
         with_reducible rfl
        rotate_left
        · simp only [Act.put, z4f_q1, z4f_q2, z4f_q3, i64_w, i32_w]; rfl
        refine z4f_u 3 54 z4f_m31 HT_ (v := ?_) (a' := ?_) rfl rfl (by kernel_rfl) (fun _ _ _ h => h) (Or.inl ⟨by rfl, ?_⟩) ?_ ?_
        rotate_left
        · intro w'; go_simp; with_reducible rfl
        rotate_left
        · simp only [Act.put, z4f_q1, z4f_q2, z4f_q3, i64_w, i32_w]; rfl
        refine z4f_u 4 55 z4f_m32 HT_ (v := ?_) (a' := ?_) rfl rfl (by kernel_rfl) (fun _ _ _ h => h) (Or.inl ⟨by rfl, ?_⟩) ?_ ?_
        rotate_left
        · intro w'; go_simp; with_reducible rfl
        rotate_left
        · simp only [Act.put, z4f_q1, z4f_q2, z4f_q3, i64_w, i32_w]; rfl
        refine take_ (i := 5) (N := some 56) (v := ?_) (a' := ?_) z4f_m33 rfl rfl (take_ofW HT_.out HW_.out (by kernel_rfl)) (fun _ _ _ h => h) (Or.inl ⟨by rfl, ?_⟩) hHeld ?_ ?_
        rotate_left
        ·
         rintro w' ⟨s0, s1, s2, s3, s4, s5, s6, s7, s8, s9, s10⟩
         go_simp
         with_reducible rfl
        rotate_left
        · simp only [Act.put, z4f_q1, z4f_q2, z4f_q3, i64_w, i32_w]; rfl
        refine z4f_u 12 4 z4f_m34 HT_ (v := ?_) (a' := ?_) rfl rfl (by kernel_rfl) (fun _ _ _ h => h) (Or.inl ⟨by rfl, ?_⟩) ?_ ?_
        rotate_left
        · intro w'; go_simp; with_reducible rfl
        rotate_left
        · simp only [Act.put, z4f_q1, z4f_q2, z4f_q3, i64_w, i32_w]; rfl
        refine take_ (i := 7) (N := some 58) (v := ?_) (a' := ?_) z4f_m35 rfl rfl (take_ofW HT_.out HW_.out (by kernel_rfl)) (fun _ _ _ h => h) (Or.inl ⟨by rfl, ?_⟩) hHeld ?_ ?_
        rotate_left
        ·
         rintro w' ⟨s0, s1, s2, s3, s4, s5, s6, s7, s8, s9, s10⟩
         go_simp
         with_reducible rfl
        rotate_left
        · simp only [Act.put, z4f_q1, z4f_q2, z4f_q3, i64_w, i32_w]; rfl
        refine z4f_u 9 60 z4f_m36 HT_ (v := ?_) (a' := ?_) rfl rfl (by kernel_rfl) (fun _ _ _ h => h) (Or.inl ⟨by rfl, ?_⟩) ?_ ?_
        rotate_left
        · intro w'; go_simp; with_reducible rfl
        rotate_left
        · simp only [Act.put, z4f_q1, z4f_q2, z4f_q3, i64_w, i32_w]; rfl
        refine z4f_u 10 61 z4f_m37 HT_ (v := ?_) (a' := ?_) rfl rfl (by kernel_rfl) (fun _ _ _ h => h) (Or.inl ⟨by rfl, ?_⟩) ?_ ?_
        rotate_left
        · intro w'; go_simp; with_reducible rfl
        rotate_left
        · simp only [Act.put, z4f_q1, z4f_q2, z4f_q3, i64_w, i32_w]; rfl
        refine take_ (i := 11) (N := some 62) (v := ?_) (a' := ?_) z4f_m38 rfl rfl (take_ofW HT_.out HW_.out (by kernel_rfl)) (fun _ _ _ h => h) (Or.inl ⟨by rfl, ?_⟩) hHeld ?_ ?_
        rotate_left
        ·
         rintro w' ⟨s0, s1, s2, s3, s4, s5, s6, s7, s8, s9, s10⟩
         go_simp
         with_reducible rfl
        rotate_left
        · simp only [Act.put, z4f_q1, z4f_q2, z4f_q3, i64_w, i32_w]; rfl
        refine z4f_u 13 5 z4f_m39 HT_ (v := ?_) (a' := ?_) rfl rfl (by kernel_rfl) (fun _ _ _ h => h) (Or.inl ⟨by rfl, ?_⟩) ?_ ?_
        rotate_left
        · intro w'; go_simp; with_reducible rfl
        rotate_left
        · simp only [Act.put, z4f_q1, z4f_q2, z4f_q3, i64_w, i32_w]; rfl
        refine z4f_u 14 6 z4f_m40 HT_ (v := ?_) (a' := ?_) rfl rfl (by kernel_rfl) (fun _ _ _ h => h) (Or.inl ⟨by rfl, ?_⟩) ?_ ?_
        rotate_left
        · intro w'; go_simp; with_reducible rfl
        rotate_left
        · simp only [Act.put, z4f_q1, z4f_q2, z4f_q3, i64_w, i32_w]; rfl
        refine done_ (done_of HT_.out (by kernel_rfl)) ?_
        try go_wp2
        go_ret3
        exact ⟨by first | rfl | (simp [errW_none, errW_some] <;> rfl) | (exfalso; simp_all; done) | (simp [*, errW_none, errW_some] <;> rfl), by repeat (first | (with_reducible first | exact HB.out | apply below_alloc | apply pw_below_drewN | apply below_drew1 | refine below_set ?_ GE225.out) | exact HB.out)⟩
       ·
        rw [if_neg c52] at H
        exact absurd H (by simp)
      ·
       rw [if_neg c51] at H
       exact absurd H (by simp)
 ·
  replace c4 := Bool.eq_false_iff.mpr c4
  subst c4
  have H1 : (some (0, 0, false)) = some (r1, r2, r3) := by rw [if_neg (show ¬ (false = true) by decide)] at H; exact H
  clear H
  have H := H1
  clear H1
  simp only [Option.some.injEq, Prod.mk.injEq] at H
  obtain ⟨rfl, rfl, rfl⟩ := H
  go_enter Tryd.func39, Tryd.ntmps39
  go_wp2_with (first | ((with_reducible refine gate_dst (N := 2) rfl ?_); refine box_event ?hg (N := 2) ?hd (cs := #[.slice A0_0 l0_0.length c0_0, .slice A0_1 l0_1.length c0_1, .int .i64 a0_2]) (t := 25) ?hr ?_; (case hd => rfl); (case hg => rfl); (case hr => first | (go_simp; done) | (go_simp; rfl)); intro gb225 hg w55 hbox hb; have n0_ := Aside0.mk (below_step (by repeat (first | (with_reducible first | exact HB.out | apply below_alloc | apply pw_below_drewN | apply below_drew1) | exact HB.out)) hb); have n1_ := Aside0.mk (hbox); have n2_ := Aside0.mk ((by rw [hg]; exact (below_size (by repeat (first | (with_reducible first | exact HB.out | apply below_alloc | apply pw_below_drewN | apply below_drew1) | exact HB.out))) : w.heap.size ≤ gb225)); have n3_ := Aside0.mk ((by rw [hg]; exact (below_size (by repeat (first | (with_reducible first | exact HB.out | apply below_alloc | apply pw_below_drewN | apply below_drew1) | exact HB.out))) : w.heap.size ≤ gb225)); clear HB; have HB := n0_; have BK225 := n1_; have GW225 := n2_; have GE225 := n3_; clear n0_ n1_ n2_ n3_; clear hb hbox hg; have hcz56_0 : w55.cell? ⟨gb225, 0, none⟩ = some (.slice A0_0 l0_0.length c0_0) := (blk_cell BK225.out 0).trans rfl; have hcz56_1 : w55.cell? ⟨gb225, 1, none⟩ = some (.slice A0_1 l0_1.length c0_1) := (blk_cell BK225.out 1).trans rfl; have hcz56_2 : w55.cell? ⟨gb225, 2, none⟩ = some (.int .i64 a0_2) := (blk_cell BK225.out 2).trans rfl; have hfz56_0 := blk_frozen BK225.out 0; have hfz56_1 := blk_frozen BK225.out 1; have hfz56_2 := blk_frozen BK225.out 2) | ((with_reducible refine gate_callee (f := 38) rfl ?_); refine goesL_ (some 12) rfl rfl Tryd.func38 (by kernel_rfl) rfl #[.agg #[.slice A0_0 l0_0.length c0_0, .slice A0_1 l0_1.length c0_1, .int .i64 a0_2], .int .i64 a1] rfl (by (try simp only [List.map_toArray, List.map_cons, List.map_nil]); first | done | rfl | (simp only [List.length_drop, List.length_take]; rfl)) ?_; (with_reducible refine (bound_is.calls _ _ l0_0 _ _ l0_1 a0_2 a1 false _ ?side1 ?side2 ?side3 ?side4 ?side5 A3.out).mono ?_); (case side1 => exact GlobOK.below HG.out (by repeat (first | (with_reducible first | exact HB.out | apply below_alloc | apply pw_below_drewN | apply below_drew1 | refine below_set ?_ GE225.out) | exact HB.out))); (case side2 => repeat (first | exact (Kd.C_below HR0_0.out HB.out) | (with_reducible refine Kd.C_alloc ?_ _) | (with_reducible refine Kd.C_drewN ?_ _) | (with_reducible refine Kd.C_drew ?_))); (case side3 => exact HC0_0.out); (case side4 => repeat (first | exact (Kd.C_below HR0_1.out HB.out) | (with_reducible refine Kd.C_alloc ?_ _) | (with_reducible refine Kd.C_drewN ?_ _) | (with_reducible refine Kd.C_drew ?_))); (case side5 => exact HC0_1.out); rintro e w57 ⟨rfl, hb⟩; refine ⟨_, rfl, ?_⟩; have n0_ := Aside0.mk (blk_below (g := gb225) (o := .cells #[.slice A0_0 l0_0.length c0_0, .slice A0_1 l0_1.length c0_1, .int .i64 a0_2] 25 (0, 0)) (by (with_reducible repeat (first | refine blk_drewN ?_ _ | refine blk_drew ?_ | refine blk_alloc ?_ _)); exact BK225.out) hb); have n1_ := Aside0.mk (below_step (by repeat (first | (with_reducible first | exact HB.out | apply below_alloc | apply pw_below_drewN | apply below_drew1 | refine below_set ?_ GE225.out) | exact HB.out)) hb); clear BK225; clear HB; have BK225 := n0_; have HB := n1_; clear n0_ n1_; (try clear hb); (try clear hb2); (try clear hk); (try clear hi)))
  go_ret3
  exact ⟨by first | rfl | (simp [errW_none, errW_some] <;> rfl) | (exfalso; simp_all; done) | (simp [*, errW_none, errW_some] <;> rfl), by repeat (first | (with_reducible first | exact HB.out | apply below_alloc | apply pw_below_drewN | apply below_drew1 | refine below_set ?_ GE225.out) | exact HB.out)⟩

end Go.Proofs.YteooecifecaikaaDoor.ECertWrong
