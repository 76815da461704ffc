/- The functions that the law comes to, as plain functions, and for each a proof that the Go code comes to just these answers. Written by a program of this claim. Conditions: each theorem bears its own. -/
import Derived.Test.YtlalofmilhakjaaDoorELotsGrowx0
import Derived.Test.YtlalofmilhakjaaDoorELotsGrowx6
import Derived.Test.YtlalofmilhakjaaDoorELotsGrowx7
namespace Go.Proofs.YtlalofmilhakjaaDoor.ELotsGrow
open Go.RowKit Go.Proofs.YtlalofmilhakjaaDoorW.PrintWords Go.Proofs.YtlalofmilhakjaaDoorW.PrintLast Go.Proofs.YtlalofmilhakjaaDoorW.PrintMore Go.Proofs.YtlalofmilhakjaaDoorW.PrintOpen
attribute [local go_sem] max2_int min2_int max_two min_two max_three min_three max_four min_four   -- for this text's walks alone
set_option linter.unusedVariables false
set_option linter.unusedSimpArgs false

/-! ### pledgelaw18_LotsGrow: function 5 -/
mutual
def pledgelaw18_LotsGrow.j0 : Nat → List Int → Int → Bool → Int → Bool → List (S25) → List Int → Int → Option (Bool)
 | 0, _, _, _, _, _, _, _, _ => none
 | k + 1, x1, x2, x7, x8, x47, x207000, x207001, x207002 => if x47 = true then (some x7) else ((pledgeworld_Number.f x2 (x1.length : Int)).bind fun t211 => (if 0 ≤ t211 then (if t211 < (x1.length : Int) then (if t211 < (x207000.length : Int) then (if (rd x1 t211) = ((rd_T25 x207000 t211).f0) then (some x7) else ((pledgeref_Ints.f k x1).bind fun t214 => (if t211 < (t214.length : Int) then ((some (t214.set (t211 : Int).toNat (wrap64 ((rd t214 t211) + 1)) : List Int)).bind fun y218 => ((lots_Worth.f k x207000 x207001 x207002 y218).bind fun bt219 => ((lots_Cost.f k x207000 x207001 x207002 x1).bind fun bt221 => ((lots_Cost.f k x207000 x207001 x207002 y218).bind fun bt223 => (pledgelaw18_LotsGrow.l0 k x1 t211 x8 y218 bt219.1 bt219.2 bt221.1 bt223.1 0 x207000 x207001 x207002 x207000 ([] : List Int) x207002))))) else (none)))) else (none)) else (none)) else (none)))
def pledgelaw18_LotsGrow.l0 : Nat → List Int → Int → Int → List Int → Int → Bool → Int → Int → Int → List (S25) → List Int → Int → List (S25) → List Int → Int → Option (Bool)
 | 0, _, _, _, _, _, _, _, _, _, _, _, _, _, _, _ => none
 | k + 1, x1, x2, x8, x10, x11, x12, x13, x15, x18, x207000, x207001, x207002, x226000, x226001, x226002 => if x18 < (x207001.length : Int) then (if x226001.length < 17592186044416 then (pledgelaw18_LotsGrow.l0 k x1 x2 x8 x10 x11 x12 x13 x15 (wrap64 (x18 + 1)) x207000 x207001 x207002 x226000 (x226001 ++ [0]) x226002) else (none)) else ((lots_Worth.f k x226000 x226001 x226002 x1).bind fun bt229 => ((lots_Worth.f k x226000 x226001 x226002 x10).bind fun bt231 => (if x12 = true then (if x11 ≥ x8 then (if 0 ≤ x2 then (if x2 < (x207000.length : Int) then (if (wrap64 (x11 - x8)) ≤ ((rd_T25 x207000 x2).f1) then (if (wrap64 (x15 - x13)) = ((rd_T25 x207000 x2).f2) then (if bt229.1 ≥ x8 then (if (wrap64 (bt231.1 - bt229.1)) = ((rd_T25 x207000 x2).f1) then ((lots_Most.f k x207000 x207001 x207002).bind fun t236 => (pledgelaw18_LotsGrow.j2 k (decide (t236 ≥ x11)))) else (pledgelaw18_LotsGrow.j2 k false)) else (pledgelaw18_LotsGrow.j2 k false)) else (pledgelaw18_LotsGrow.j2 k false)) else (pledgelaw18_LotsGrow.j2 k false)) else (none)) else (none)) else (pledgelaw18_LotsGrow.j2 k false)) else (pledgelaw18_LotsGrow.j2 k false))))
def pledgelaw18_LotsGrow.j2 : Nat → Bool → Option (Bool)
 | 0, _ => none
 | k + 1, x6 => some x6
end
def pledgelaw18_LotsGrow.f (k : Nat) (l0_0 : List (S25)) (l0_1 : List Int) (a0_2 : Int) (l1 : List Int) (a2 : Int) : Option (Bool) := (pledgelaw18_first.f k).bind fun t207 => (if t207 = true then ((lots_Worth.f k l0_0 l0_1 a0_2 l1).bind fun bt208 => ((pledgelaw18_light.f l0_0 l0_1 a0_2).bind fun t210 => (if t210 = true then (if bt208.2 = true then (if (l1.length : Int) = 0 then (pledgelaw18_LotsGrow.j0 k l1 a2 t207 bt208.1 true l0_0 l0_1 a0_2) else (pledgelaw18_LotsGrow.j0 k l1 a2 t207 bt208.1 (!t207) l0_0 l0_1 a0_2)) else (pledgelaw18_LotsGrow.j0 k l1 a2 t207 bt208.1 true l0_0 l0_1 a0_2)) else (pledgelaw18_LotsGrow.j0 k l1 a2 t207 bt208.1 true l0_0 l0_1 a0_2)))) else (some false))
theorem pledgelaw18_LotsGrow.mono_l : ∀ k, (∀ y0 y1 y2 y3 y4 y5 y6 y7, LeO (pledgelaw18_LotsGrow.j0 k y0 y1 y2 y3 y4 y5 y6 y7) (pledgelaw18_LotsGrow.j0 (k + 1) y0 y1 y2 y3 y4 y5 y6 y7)) ∧ (∀ y0 y1 y2 y3 y4 y5 y6 y7 y8 y9 y10 y11 y12 y13 y14, LeO (pledgelaw18_LotsGrow.l0 k y0 y1 y2 y3 y4 y5 y6 y7 y8 y9 y10 y11 y12 y13 y14) (pledgelaw18_LotsGrow.l0 (k + 1) y0 y1 y2 y3 y4 y5 y6 y7 y8 y9 y10 y11 y12 y13 y14)) ∧ (∀ y0, LeO (pledgelaw18_LotsGrow.j2 k y0) (pledgelaw18_LotsGrow.j2 (k + 1) y0))
 | 0 => ⟨fun _ _ _ _ _ _ _ _ r h => by simp [pledgelaw18_LotsGrow.j0] at h, fun _ _ _ _ _ _ _ _ _ _ _ _ _ _ _ r h => by simp [pledgelaw18_LotsGrow.l0] at h, fun _ r h => by simp [pledgelaw18_LotsGrow.j2] at h⟩
 | k + 1 => by
  obtain ⟨ih0, ih1, ih2⟩ := pledgelaw18_LotsGrow.mono_l k
  refine ⟨?_, ?_, ?_⟩
  ·
   intro y0 y1 y2 y3 y4 y5 y6 y7
   unfold pledgelaw18_LotsGrow.j0
   repeat' first
   | (with_reducible exact ih0 _ _ _ _ _ _ _ _)
   | (with_reducible exact ih1 _ _ _ _ _ _ _ _ _ _ _ _ _ _ _)
   | (with_reducible exact ih2 _)
   | (with_reducible exact lots_Cost.mono _ _ _ _ _)
   | (with_reducible exact lots_Most.mono _ _ _ _)
   | (with_reducible exact lots_Worth.mono _ _ _ _ _)
   | (with_reducible exact pledgelaw18_first.mono _)
   | (with_reducible exact pledgeref_Ints.mono _ _)
   | (with_reducible exact LeO.refl _)
   | (with_reducible exact LeO.none _)
   | (with_reducible refine LeO.ite ?_ ?_)
   | (with_reducible refine LeO.bind ?_ (fun _ => ?_))
   | exact ih0 _ _ _ _ _ _ _ _
   | exact ih1 _ _ _ _ _ _ _ _ _ _ _ _ _ _ _
   | exact ih2 _
   | exact lots_Cost.mono _ _ _ _ _
   | exact lots_Most.mono _ _ _ _
   | exact lots_Worth.mono _ _ _ _ _
   | exact pledgelaw18_first.mono _
   | exact pledgeref_Ints.mono _ _
   | exact LeO.none _
   | refine LeO.ite ?_ ?_
   | refine LeO.bind ?_ (fun _ => ?_)
  ·
   intro y0 y1 y2 y3 y4 y5 y6 y7 y8 y9 y10 y11 y12 y13 y14
   unfold pledgelaw18_LotsGrow.l0
   repeat' first
   | (with_reducible exact ih0 _ _ _ _ _ _ _ _)
   | (with_reducible exact ih1 _ _ _ _ _ _ _ _ _ _ _ _ _ _ _)
   | (with_reducible exact ih2 _)
   | (with_reducible exact lots_Cost.mono _ _ _ _ _)
   | (with_reducible exact lots_Most.mono _ _ _ _)
   | (with_reducible exact lots_Worth.mono _ _ _ _ _)
   | (with_reducible exact pledgelaw18_first.mono _)
   | (with_reducible exact pledgeref_Ints.mono _ _)
   | (with_reducible exact LeO.refl _)
   | (with_reducible exact LeO.none _)
   | (with_reducible refine LeO.ite ?_ ?_)
   | (with_reducible refine LeO.bind ?_ (fun _ => ?_))
   | exact ih0 _ _ _ _ _ _ _ _
   | exact ih1 _ _ _ _ _ _ _ _ _ _ _ _ _ _ _
   | exact ih2 _
   | exact lots_Cost.mono _ _ _ _ _
   | exact lots_Most.mono _ _ _ _
   | exact lots_Worth.mono _ _ _ _ _
   | exact pledgelaw18_first.mono _
   | exact pledgeref_Ints.mono _ _
   | exact LeO.none _
   | refine LeO.ite ?_ ?_
   | refine LeO.bind ?_ (fun _ => ?_)
  ·
   intro y0
   unfold pledgelaw18_LotsGrow.j2
   repeat' first
   | (with_reducible exact ih0 _ _ _ _ _ _ _ _)
   | (with_reducible exact ih1 _ _ _ _ _ _ _ _ _ _ _ _ _ _ _)
   | (with_reducible exact ih2 _)
   | (with_reducible exact lots_Cost.mono _ _ _ _ _)
   | (with_reducible exact lots_Most.mono _ _ _ _)
   | (with_reducible exact lots_Worth.mono _ _ _ _ _)
   | (with_reducible exact pledgelaw18_first.mono _)
   | (with_reducible exact pledgeref_Ints.mono _ _)
   | (with_reducible exact LeO.refl _)
   | (with_reducible exact LeO.none _)
   | (with_reducible refine LeO.ite ?_ ?_)
   | (with_reducible refine LeO.bind ?_ (fun _ => ?_))
   | exact ih0 _ _ _ _ _ _ _ _
   | exact ih1 _ _ _ _ _ _ _ _ _ _ _ _ _ _ _
   | exact ih2 _
   | exact lots_Cost.mono _ _ _ _ _
   | exact lots_Most.mono _ _ _ _
   | exact lots_Worth.mono _ _ _ _ _
   | exact pledgelaw18_first.mono _
   | exact pledgeref_Ints.mono _ _
   | exact LeO.none _
   | refine LeO.ite ?_ ?_
   | refine LeO.bind ?_ (fun _ => ?_)
theorem pledgelaw18_LotsGrow.mono : ∀ a0 a1 a2 a3 a4 k, LeO (pledgelaw18_LotsGrow.f k a0 a1 a2 a3 a4) (pledgelaw18_LotsGrow.f (k + 1) a0 a1 a2 a3 a4) := by
 intro a0 a1 a2 a3 a4 k
 obtain ⟨ih0, ih1, ih2⟩ := pledgelaw18_LotsGrow.mono_l k
 unfold pledgelaw18_LotsGrow.f
 repeat' first
   | (with_reducible exact ih0 _ _ _ _ _ _ _ _)
   | (with_reducible exact ih1 _ _ _ _ _ _ _ _ _ _ _ _ _ _ _)
   | (with_reducible exact ih2 _)
   | (with_reducible exact lots_Cost.mono _ _ _ _ _)
   | (with_reducible exact lots_Most.mono _ _ _ _)
   | (with_reducible exact lots_Worth.mono _ _ _ _ _)
   | (with_reducible exact pledgelaw18_first.mono _)
   | (with_reducible exact pledgeref_Ints.mono _ _)
   | (with_reducible exact LeO.refl _)
   | (with_reducible exact LeO.none _)
   | (with_reducible refine LeO.ite ?_ ?_)
   | (with_reducible refine LeO.bind ?_ (fun _ => ?_))
   | exact ih0 _ _ _ _ _ _ _ _
   | exact ih1 _ _ _ _ _ _ _ _ _ _ _ _ _ _ _
   | exact ih2 _
   | exact lots_Cost.mono _ _ _ _ _
   | exact lots_Most.mono _ _ _ _
   | exact lots_Worth.mono _ _ _ _ _
   | exact pledgelaw18_first.mono _
   | exact pledgeref_Ints.mono _ _
   | exact LeO.none _
   | refine LeO.ite ?_ ?_
   | refine LeO.bind ?_ (fun _ => ?_)
theorem zc13a_q1 {α : Type} {l : List α} {i : Nat} {a : α} : l.toArray.setIfInBounds i a = (l.set i a).toArray := List.setIfInBounds_toArray ..
theorem zc13a_q2 {α : Type} {x : α} {l : List α} {a : α} : (x :: l).set 0 a = a :: l := rfl
theorem zc13a_q3 {α : Type} {x : α} {l : List α} {n : Nat} {a : α} : (x :: l).set n.succ a = x :: l.set n a := rfl
theorem zc13a_u {P : Program} {ops : Array Oper} {Q : Exit → Act → World → Prop} {md : Region.Mode} {S : World → Prop} {ds : List Nat} {T : Bool × List (List Nat × List Nat)} (i N : Nat) (l' : Array Bool) (hT : Aside0 (rtab md ops = T)) {oi : Oper} {v : Value} {fuel : Nat} {l : Array Bool} {a : Act} {w : World} (hi : ops[i]? = some oi) (hN : oi.dst = some N) (hc : anyT T l.toList l'.toList i = true)
  (hQ : ∀ c a w, Q (.panic c) (a.put oi.dst v) w → Q (.panic c) a w) (hy : Yields P ops oi v a) {a' : Act} (ha : a.put (some N) v = a')
  (h : wpAnyLast P md ops Q S ds fuel l' a' w) : wpAnyLast P md ops Q S ds (fuel + 1) l a w := pure_ l' hi hN (any_of hT.out hc) hQ hy ha h
set_option maxHeartbeats 8000000 in
set_option maxRecDepth 100000 in
theorem pledgelaw18_LotsGrow.calls [Inhabited (Int → Addr)] (k : Nat) (A0_0 : Option Addr) (c0_0 : Nat) (l0_0 : List (S25)) (A0_1 : Option Addr) (c0_1 : Nat) (l0_1 : List Int) (a0_2 : Int) (A1 : Option Addr) (c1 : Nat) (l1 : List Int) (a2 : Int) (r : Bool) (w : World) (hG : GlobOK w) (hr0_0 : Kd.C k25 w A0_0 l0_0.length l0_0) (hc0_0 : l0_0.length ≤ c0_0) (hr0_1 : Kd.C (Kd.int .i64) w A0_1 l0_1.length l0_1) (hc0_1 : l0_1.length ≤ c0_1) (hr1 : Kd.C (Kd.int .i64) w A1 l1.length l1) (hc1 : l1.length ≤ c1) (h : pledgelaw18_LotsGrow.f k l0_0 l0_1 a0_2 l1 a2 = some r) :
  Calls Tryd.prog 5 #[.agg #[.slice A0_0 l0_0.length c0_0, .slice A0_1 l0_1.length c0_1, .int .i64 a0_2], .slice A1 l1.length c1, .int .i64 a2] w fun e w' => e = .returned (.bool r) ∧ Below w.heap.size w w' := by
 have hu29 := Tryd.underlying29
 have HG := Aside0.mk hG
 clear hG
 have HR0_0 := Aside0.mk hr0_0
 have HC0_0 := Aside0.mk hc0_0
 clear hr0_0 hc0_0
 have HR0_1 := Aside0.mk hr0_1
 have HC0_1 := Aside0.mk hc0_1
 clear hr0_1 hc0_1
 have HR1 := Aside0.mk hr1
 have HC1 := Aside0.mk hc1
 clear hr1 hc1
 have HB := Aside0.mk (Below.refl w.heap.size w)
 have H : ((pledgelaw18_first.f k).bind fun t207 => (if t207 = true then ((lots_Worth.f k l0_0 l0_1 a0_2 l1).bind fun bt208 => ((pledgelaw18_light.f l0_0 l0_1 a0_2).bind fun t210 => (if t210 = true then (if bt208.2 = true then (if (l1.length : Int) = 0 then (pledgelaw18_LotsGrow.j0 k l1 a2 t207 bt208.1 true l0_0 l0_1 a0_2) else (pledgelaw18_LotsGrow.j0 k l1 a2 t207 bt208.1 (!t207) l0_0 l0_1 a0_2)) else (pledgelaw18_LotsGrow.j0 k l1 a2 t207 bt208.1 true l0_0 l0_1 a0_2)) else (pledgelaw18_LotsGrow.j0 k l1 a2 t207 bt208.1 true l0_0 l0_1 a0_2)))) else (some false))) = some r := h
 clear h
 replace H := Option.bind_eq_some_iff.mp H
 obtain ⟨t207, A40, H⟩ := H
 replace H : (if t207 = true then ((lots_Worth.f k l0_0 l0_1 a0_2 l1).bind fun bt208 => ((pledgelaw18_light.f l0_0 l0_1 a0_2).bind fun t210 => (if t210 = true then (if bt208.2 = true then (if (l1.length : Int) = 0 then (pledgelaw18_LotsGrow.j0 k l1 a2 t207 bt208.1 true l0_0 l0_1 a0_2) else (pledgelaw18_LotsGrow.j0 k l1 a2 t207 bt208.1 (!t207) l0_0 l0_1 a0_2)) else (pledgelaw18_LotsGrow.j0 k l1 a2 t207 bt208.1 true l0_0 l0_1 a0_2)) else (pledgelaw18_LotsGrow.j0 k l1 a2 t207 bt208.1 true l0_0 l0_1 a0_2)))) else (some false)) = some r := H
 have A4 := Aside0.mk A40
 clear A40
 by_cases c5 : t207 = true
 ·
  subst c5
  have H1 : ((lots_Worth.f k l0_0 l0_1 a0_2 l1).bind fun bt208 => ((pledgelaw18_light.f l0_0 l0_1 a0_2).bind fun t210 => (if t210 = true then (if bt208.2 = true then (if (l1.length : Int) = 0 then (pledgelaw18_LotsGrow.j0 k l1 a2 true bt208.1 true l0_0 l0_1 a0_2) else (pledgelaw18_LotsGrow.j0 k l1 a2 true bt208.1 (!true) l0_0 l0_1 a0_2)) else (pledgelaw18_LotsGrow.j0 k l1 a2 true bt208.1 true l0_0 l0_1 a0_2)) else (pledgelaw18_LotsGrow.j0 k l1 a2 true bt208.1 true l0_0 l0_1 a0_2)))) = some r := by rw [if_pos rfl] at H; exact H
  clear H
  have H := H1
  clear H1
  replace H := Option.bind_eq_some_iff.mp H
  obtain ⟨⟨t208, t209⟩, A60, H⟩ := H
  replace H : ((pledgelaw18_light.f l0_0 l0_1 a0_2).bind fun t210 => (if t210 = true then (if t209 = true then (if (l1.length : Int) = 0 then (pledgelaw18_LotsGrow.j0 k l1 a2 true t208 true l0_0 l0_1 a0_2) else (pledgelaw18_LotsGrow.j0 k l1 a2 true t208 (!true) l0_0 l0_1 a0_2)) else (pledgelaw18_LotsGrow.j0 k l1 a2 true t208 true l0_0 l0_1 a0_2)) else (pledgelaw18_LotsGrow.j0 k l1 a2 true t208 true l0_0 l0_1 a0_2))) = some r := H
  have A6 := Aside0.mk A60
  clear A60
  have HC7 := Aside0.mk H
  clear H
  go_enter Tryd.func5, Tryd.ntmps5
  go_upto_region 5 with (first | ((with_reducible refine gate_dst (N := 3) rfl ?_); (try (refine gate_guard (by rfl) ?_; dsimp only)); refine box_event ?hg (N := 3) ?hd (cs := #[.slice A0_0 l0_0.length c0_0, .slice A0_1 l0_1.length c0_1, .int .i64 a0_2]) (t := 29) ?hr ?_; (case hd => rfl); (case hg => rfl); (case hr => first | (go_simp; done) | (go_simp; rfl)); intro gb206 hg w8 hbox hb; have n0_ := Aside0.mk (below_step (by repeat (first | (with_reducible first | exact HB.out | apply below_alloc | apply pw_below_drewN | apply below_drew1) | exact HB.out)) hb); have n1_ := Aside0.mk (hbox); have n2_ := Aside0.mk ((by rw [hg]; exact (below_size (by repeat (first | (with_reducible first | exact HB.out | apply below_alloc | apply pw_below_drewN | apply below_drew1) | exact HB.out))) : w.heap.size ≤ gb206)); have n3_ := Aside0.mk ((by rw [hg]; exact (below_size (by repeat (first | (with_reducible first | exact HB.out | apply below_alloc | apply pw_below_drewN | apply below_drew1) | exact HB.out))) : w.heap.size ≤ gb206)); clear HB; have HB := n0_; have BK206 := n1_; have GW206 := n2_; have GE206 := n3_; clear n0_ n1_ n2_ n3_; clear hb hbox hg) | (go_at_call 8; (with_reducible refine (pledgelaw18_first.calls k  true _ ?side1 A4.out).mono ?_); (case side1 => exact GlobOK.below HG.out (by repeat (first | (with_reducible first | exact HB.out | apply below_alloc | apply pw_below_drewN | apply below_drew1 | refine below_set ?_ GE206.out) | exact HB.out))); rintro e w9 ⟨rfl, hb⟩; have n0_ := Aside0.mk (blk_below (g := gb206) (o := .cells #[.slice A0_0 l0_0.length c0_0, .slice A0_1 l0_1.length c0_1, .int .i64 a0_2] 29 (0, 0)) (by (with_reducible repeat (first | refine blk_drewN ?_ _ | refine blk_drew ?_ | refine blk_alloc ?_ _)); exact BK206.out) hb); have n1_ := Aside0.mk (below_step (by repeat (first | (with_reducible first | exact HB.out | apply below_alloc | apply pw_below_drewN | apply below_drew1 | refine below_set ?_ GE206.out) | exact HB.out)) hb); clear BK206; clear HB; have BK206 := n0_; have HB := n1_; clear n0_ n1_; (try clear hb); (try clear hb2); (try clear hk); (try clear hi); have hcz10_0 : w9.cell? ⟨gb206, 0, none⟩ = some (.slice A0_0 l0_0.length c0_0) := (blk_cell BK206.out 0).trans rfl; have hcz10_1 : w9.cell? ⟨gb206, 1, none⟩ = some (.slice A0_1 l0_1.length c0_1) := (blk_cell BK206.out 1).trans rfl; have hcz10_2 : w9.cell? ⟨gb206, 2, none⟩ = some (.int .i64 a0_2) := (blk_cell BK206.out 2).trans rfl; have hfz10_0 := blk_frozen BK206.out 0; have hfz10_1 := blk_frozen BK206.out 1; have hfz10_2 := blk_frozen BK206.out 2) | (go_at_call 16; (with_reducible refine (lots_Worth.calls k _ _ l0_0 _ _ l0_1 a0_2 _ _ l1 t208 t209 _ ?side1 ?side2 ?side3 ?side4 ?side5 ?side6 ?side7 A6.out).mono ?_); (case side1 => exact GlobOK.below HG.out (by repeat (first | (with_reducible first | exact HB.out | apply below_alloc | apply pw_below_drewN | apply below_drew1 | refine below_set ?_ GE206.out) | exact HB.out))); (case side2 => repeat (first | exact (Kd.C_below HR0_0.out HB.out) | (with_reducible refine Kd.C_alloc ?_ _) | (with_reducible refine Kd.C_drewN ?_ _) | (with_reducible refine Kd.C_drew ?_))); (case side3 => exact HC0_0.out); (case side4 => repeat (first | exact (Kd.C_below HR0_1.out HB.out) | (with_reducible refine Kd.C_alloc ?_ _) | (with_reducible refine Kd.C_drewN ?_ _) | (with_reducible refine Kd.C_drew ?_))); (case side5 => exact HC0_1.out); (case side6 => repeat (first | exact (Kd.C_below HR1.out HB.out) | (with_reducible refine Kd.C_alloc ?_ _) | (with_reducible refine Kd.C_drewN ?_ _) | (with_reducible refine Kd.C_drew ?_))); (case side7 => exact HC1.out); rintro e w11 ⟨rfl, hb⟩; have n0_ := Aside0.mk (blk_below (g := gb206) (o := .cells #[.slice A0_0 l0_0.length c0_0, .slice A0_1 l0_1.length c0_1, .int .i64 a0_2] 29 (0, 0)) (by (with_reducible repeat (first | refine blk_drewN ?_ _ | refine blk_drew ?_ | refine blk_alloc ?_ _)); exact BK206.out) hb); have n1_ := Aside0.mk (below_step (by repeat (first | (with_reducible first | exact HB.out | apply below_alloc | apply pw_below_drewN | apply below_drew1 | refine below_set ?_ GE206.out) | exact HB.out)) hb); clear BK206; clear HB; have BK206 := n0_; have HB := n1_; clear n0_ n1_; (try clear hb); (try clear hb2); (try clear hk); (try clear hi)))
  repeat (go_quiet (first | ((with_reducible refine gate_dst (N := 3) rfl ?_); (try (refine gate_guard (by rfl) ?_; dsimp only)); refine box_event ?hg (N := 3) ?hd (cs := #[.slice A0_0 l0_0.length c0_0, .slice A0_1 l0_1.length c0_1, .int .i64 a0_2]) (t := 29) ?hr ?_; (case hd => rfl); (case hg => rfl); (case hr => first | (go_simp; done) | (go_simp; rfl)); intro gb206 hg w8 hbox hb; have n0_ := Aside0.mk (below_step (by repeat (first | (with_reducible first | exact HB.out | apply below_alloc | apply pw_below_drewN | apply below_drew1) | exact HB.out)) hb); have n1_ := Aside0.mk (hbox); have n2_ := Aside0.mk ((by rw [hg]; exact (below_size (by repeat (first | (with_reducible first | exact HB.out | apply below_alloc | apply pw_below_drewN | apply below_drew1) | exact HB.out))) : w.heap.size ≤ gb206)); have n3_ := Aside0.mk ((by rw [hg]; exact (below_size (by repeat (first | (with_reducible first | exact HB.out | apply below_alloc | apply pw_below_drewN | apply below_drew1) | exact HB.out))) : w.heap.size ≤ gb206)); clear HB; have HB := n0_; have BK206 := n1_; have GW206 := n2_; have GE206 := n3_; clear n0_ n1_ n2_ n3_; clear hb hbox hg) | (go_at_call 8; (try simp only [i64_w, i32_w]); (with_reducible refine (pledgelaw18_first.calls k  true _ ?side1 A4.out).mono ?_); (case side1 => exact GlobOK.below HG.out (by repeat (first | (with_reducible first | exact HB.out | apply below_alloc | apply pw_below_drewN | apply below_drew1 | refine below_set ?_ GE206.out) | exact HB.out))); rintro e w9 ⟨rfl, hb⟩; have n0_ := Aside0.mk (blk_below (g := gb206) (o := .cells #[.slice A0_0 l0_0.length c0_0, .slice A0_1 l0_1.length c0_1, .int .i64 a0_2] 29 (0, 0)) (by (with_reducible repeat (first | refine blk_drewN ?_ _ | refine blk_drew ?_ | refine blk_alloc ?_ _)); exact BK206.out) hb); have n1_ := Aside0.mk (below_step (by repeat (first | (with_reducible first | exact HB.out | apply below_alloc | apply pw_below_drewN | apply below_drew1 | refine below_set ?_ GE206.out) | exact HB.out)) hb); clear BK206; clear HB; have BK206 := n0_; have HB := n1_; clear n0_ n1_; (try clear hb); (try clear hb2); (try clear hk); (try clear hi); have hcz10_0 : w9.cell? ⟨gb206, 0, none⟩ = some (.slice A0_0 l0_0.length c0_0) := (blk_cell BK206.out 0).trans rfl; have hcz10_1 : w9.cell? ⟨gb206, 1, none⟩ = some (.slice A0_1 l0_1.length c0_1) := (blk_cell BK206.out 1).trans rfl; have hcz10_2 : w9.cell? ⟨gb206, 2, none⟩ = some (.int .i64 a0_2) := (blk_cell BK206.out 2).trans rfl; have hfz10_0 := blk_frozen BK206.out 0; have hfz10_1 := blk_frozen BK206.out 1; have hfz10_2 := blk_frozen BK206.out 2) | (go_at_call 16; (try simp only [i64_w, i32_w]); (with_reducible refine (lots_Worth.calls k _ _ l0_0 _ _ l0_1 a0_2 _ _ l1 t208 t209 _ ?side1 ?side2 ?side3 ?side4 ?side5 ?side6 ?side7 A6.out).mono ?_); (case side1 => exact GlobOK.below HG.out (by repeat (first | (with_reducible first | exact HB.out | apply below_alloc | apply pw_below_drewN | apply below_drew1 | refine below_set ?_ GE206.out) | exact HB.out))); (case side2 => repeat (first | exact (Kd.C_below HR0_0.out HB.out) | (with_reducible refine Kd.C_alloc ?_ _) | (with_reducible refine Kd.C_drewN ?_ _) | (with_reducible refine Kd.C_drew ?_))); (case side3 => exact HC0_0.out); (case side4 => repeat (first | exact (Kd.C_below HR0_1.out HB.out) | (with_reducible refine Kd.C_alloc ?_ _) | (with_reducible refine Kd.C_drewN ?_ _) | (with_reducible refine Kd.C_drew ?_))); (case side5 => exact HC0_1.out); (case side6 => repeat (first | exact (Kd.C_below HR1.out HB.out) | (with_reducible refine Kd.C_alloc ?_ _) | (with_reducible refine Kd.C_drewN ?_ _) | (with_reducible refine Kd.C_drew ?_))); (case side7 => exact HC1.out); rintro e w11 ⟨rfl, hb⟩; have n0_ := Aside0.mk (blk_below (g := gb206) (o := .cells #[.slice A0_0 l0_0.length c0_0, .slice A0_1 l0_1.length c0_1, .int .i64 a0_2] 29 (0, 0)) (by (with_reducible repeat (first | refine blk_drewN ?_ _ | refine blk_drew ?_ | refine blk_alloc ?_ _)); exact BK206.out) hb); have n1_ := Aside0.mk (below_step (by repeat (first | (with_reducible first | exact HB.out | apply below_alloc | apply pw_below_drewN | apply below_drew1 | refine below_set ?_ GE206.out) | exact HB.out)) hb); clear BK206; clear HB; have BK206 := n0_; have HB := n1_; clear n0_ n1_; (try clear hb); (try clear hb2); (try clear hk); (try clear hi))); go_upto_region 5 with (first | ((with_reducible refine gate_dst (N := 3) rfl ?_); (try (refine gate_guard (by rfl) ?_; dsimp only)); refine box_event ?hg (N := 3) ?hd (cs := #[.slice A0_0 l0_0.length c0_0, .slice A0_1 l0_1.length c0_1, .int .i64 a0_2]) (t := 29) ?hr ?_; (case hd => rfl); (case hg => rfl); (case hr => first | (go_simp; done) | (go_simp; rfl)); intro gb206 hg w8 hbox hb; have n0_ := Aside0.mk (below_step (by repeat (first | (with_reducible first | exact HB.out | apply below_alloc | apply pw_below_drewN | apply below_drew1) | exact HB.out)) hb); have n1_ := Aside0.mk (hbox); have n2_ := Aside0.mk ((by rw [hg]; exact (below_size (by repeat (first | (with_reducible first | exact HB.out | apply below_alloc | apply pw_below_drewN | apply below_drew1) | exact HB.out))) : w.heap.size ≤ gb206)); have n3_ := Aside0.mk ((by rw [hg]; exact (below_size (by repeat (first | (with_reducible first | exact HB.out | apply below_alloc | apply pw_below_drewN | apply below_drew1) | exact HB.out))) : w.heap.size ≤ gb206)); clear HB; have HB := n0_; have BK206 := n1_; have GW206 := n2_; have GE206 := n3_; clear n0_ n1_ n2_ n3_; clear hb hbox hg) | (go_at_call 8; (try simp only [i64_w, i32_w]); (with_reducible refine (pledgelaw18_first.calls k  true _ ?side1 A4.out).mono ?_); (case side1 => exact GlobOK.below HG.out (by repeat (first | (with_reducible first | exact HB.out | apply below_alloc | apply pw_below_drewN | apply below_drew1 | refine below_set ?_ GE206.out) | exact HB.out))); rintro e w9 ⟨rfl, hb⟩; have n0_ := Aside0.mk (blk_below (g := gb206) (o := .cells #[.slice A0_0 l0_0.length c0_0, .slice A0_1 l0_1.length c0_1, .int .i64 a0_2] 29 (0, 0)) (by (with_reducible repeat (first | refine blk_drewN ?_ _ | refine blk_drew ?_ | refine blk_alloc ?_ _)); exact BK206.out) hb); have n1_ := Aside0.mk (below_step (by repeat (first | (with_reducible first | exact HB.out | apply below_alloc | apply pw_below_drewN | apply below_drew1 | refine below_set ?_ GE206.out) | exact HB.out)) hb); clear BK206; clear HB; have BK206 := n0_; have HB := n1_; clear n0_ n1_; (try clear hb); (try clear hb2); (try clear hk); (try clear hi); have hcz10_0 : w9.cell? ⟨gb206, 0, none⟩ = some (.slice A0_0 l0_0.length c0_0) := (blk_cell BK206.out 0).trans rfl; have hcz10_1 : w9.cell? ⟨gb206, 1, none⟩ = some (.slice A0_1 l0_1.length c0_1) := (blk_cell BK206.out 1).trans rfl; have hcz10_2 : w9.cell? ⟨gb206, 2, none⟩ = some (.int .i64 a0_2) := (blk_cell BK206.out 2).trans rfl; have hfz10_0 := blk_frozen BK206.out 0; have hfz10_1 := blk_frozen BK206.out 1; have hfz10_2 := blk_frozen BK206.out 2) | (go_at_call 16; (try simp only [i64_w, i32_w]); (with_reducible refine (lots_Worth.calls k _ _ l0_0 _ _ l0_1 a0_2 _ _ l1 t208 t209 _ ?side1 ?side2 ?side3 ?side4 ?side5 ?side6 ?side7 A6.out).mono ?_); (case side1 => exact GlobOK.below HG.out (by repeat (first | (with_reducible first | exact HB.out | apply below_alloc | apply pw_below_drewN | apply below_drew1 | refine below_set ?_ GE206.out) | exact HB.out))); (case side2 => repeat (first | exact (Kd.C_below HR0_0.out HB.out) | (with_reducible refine Kd.C_alloc ?_ _) | (with_reducible refine Kd.C_drewN ?_ _) | (with_reducible refine Kd.C_drew ?_))); (case side3 => exact HC0_0.out); (case side4 => repeat (first | exact (Kd.C_below HR0_1.out HB.out) | (with_reducible refine Kd.C_alloc ?_ _) | (with_reducible refine Kd.C_drewN ?_ _) | (with_reducible refine Kd.C_drew ?_))); (case side5 => exact HC0_1.out); (case side6 => repeat (first | exact (Kd.C_below HR1.out HB.out) | (with_reducible refine Kd.C_alloc ?_ _) | (with_reducible refine Kd.C_drewN ?_ _) | (with_reducible refine Kd.C_drew ?_))); (case side7 => exact HC1.out); rintro e w11 ⟨rfl, hb⟩; have n0_ := Aside0.mk (blk_below (g := gb206) (o := .cells #[.slice A0_0 l0_0.length c0_0, .slice A0_1 l0_1.length c0_1, .int .i64 a0_2] 29 (0, 0)) (by (with_reducible repeat (first | refine blk_drewN ?_ _ | refine blk_drew ?_ | refine blk_alloc ?_ _)); exact BK206.out) hb); have n1_ := Aside0.mk (below_step (by repeat (first | (with_reducible first | exact HB.out | apply below_alloc | apply pw_below_drewN | apply below_drew1 | refine below_set ?_ GE206.out) | exact HB.out)) hb); clear BK206; clear HB; have BK206 := n0_; have HB := n1_; clear n0_ n1_; (try clear hb); (try clear hb2); (try clear hk); (try clear hi))))
  (try simp only [Act.put, zc13a_q1, zc13a_q2, zc13a_q3])
  go_cut [47] (fun v47 wc => ∃ (kq : Nat) (x47_6 : Bool), v47 = .bool x47_6 ∧ Aside0 (pledgelaw18_LotsGrow.j0 kq l1 a2 true t208 x47_6 l0_0 l0_1 a0_2 = some r) ∧ Aside0 (kq ≤ k) ∧ Aside0 (wc.heap[gb206]? = some (.cells #[(.slice A0_0 l0_0.length c0_0), (.slice A0_1 l0_1.length c0_1), .int .i64 a0_2] 29 (0, 0))) ∧ Aside0 (Below w.heap.size w wc))
  case first =>
   have H := HC7.out
   clear HC7
   replace H := Option.bind_eq_some_iff.mp H
   obtain ⟨t210, A120, H⟩ := H
   replace H : (if t210 = true then (if t209 = true then (if (l1.length : Int) = 0 then (pledgelaw18_LotsGrow.j0 k l1 a2 true t208 true l0_0 l0_1 a0_2) else (pledgelaw18_LotsGrow.j0 k l1 a2 true t208 (!true) l0_0 l0_1 a0_2)) else (pledgelaw18_LotsGrow.j0 k l1 a2 true t208 true l0_0 l0_1 a0_2)) else (pledgelaw18_LotsGrow.j0 k l1 a2 true t208 true l0_0 l0_1 a0_2)) = some r := H
   have A12 := Aside0.mk A120
   clear A120
   by_cases c13 : t210 = true
   ·
    subst c13
    have H1 : (if t209 = true then (if (l1.length : Int) = 0 then (pledgelaw18_LotsGrow.j0 k l1 a2 true t208 true l0_0 l0_1 a0_2) else (pledgelaw18_LotsGrow.j0 k l1 a2 true t208 (!true) l0_0 l0_1 a0_2)) else (pledgelaw18_LotsGrow.j0 k l1 a2 true t208 true l0_0 l0_1 a0_2)) = some r := by rw [if_pos rfl] at H; exact H
    clear H
    have H := H1
    clear H1
    by_cases c14 : t209 = true
    ·
     subst c14
     have H1 : (if (l1.length : Int) = 0 then (pledgelaw18_LotsGrow.j0 k l1 a2 true t208 true l0_0 l0_1 a0_2) else (pledgelaw18_LotsGrow.j0 k l1 a2 true t208 (!true) l0_0 l0_1 a0_2)) = some r := by rw [if_pos rfl] at H; exact H
     clear H
     have H := H1
     clear H1
     by_cases c15 : (l1.length : Int) = 0
     ·
      rw [if_pos c15] at H
      have c15b0 : ((l1.length : Int) == 0) = true := beq_iff_eq.mpr c15
      have c15b1 : ((l1.length : Int) != 0) = false := bne_eq_false_iff_eq.mpr c15
      clear c15
      (first | rw [c15b0] | (simp only [i64_w, i32_w]; rw [c15b0]) | skip)
      have H' := Aside0.mk H
      clear H
      have hcz16_0 : w11.cell? ⟨gb206, 0, none⟩ = some (.slice A0_0 l0_0.length c0_0) := (blk_cell BK206.out 0).trans rfl
      have hcz16_1 : w11.cell? ⟨gb206, 1, none⟩ = some (.slice A0_1 l0_1.length c0_1) := (blk_cell BK206.out 1).trans rfl
      have hcz16_2 : w11.cell? ⟨gb206, 2, none⟩ = some (.int .i64 a0_2) := (blk_cell BK206.out 2).trans rfl
      have hfz16_0 := blk_frozen BK206.out 0
      have hfz16_1 := blk_frozen BK206.out 1
      have hfz16_2 := blk_frozen BK206.out 2
      go_wp2_with (first | (go_at_call 11; (with_reducible refine (pledgelaw18_light.calls _ _ l0_0 _ _ l0_1 a0_2 true _ ?side1 ?side2 ?side3 ?side4 A12.out).mono ?_); (case side1 => repeat (first | exact (Kd.C_below HR0_0.out HB.out) | (with_reducible refine Kd.C_alloc ?_ _) | (with_reducible refine Kd.C_drewN ?_ _) | (with_reducible refine Kd.C_drew ?_))); (case side2 => exact HC0_0.out); (case side3 => repeat (first | exact (Kd.C_below HR0_1.out HB.out) | (with_reducible refine Kd.C_alloc ?_ _) | (with_reducible refine Kd.C_drewN ?_ _) | (with_reducible refine Kd.C_drew ?_))); (case side4 => exact HC0_1.out); rintro e w17 ⟨rfl, hb⟩; have n0_ := Aside0.mk (blk_below (g := gb206) (o := .cells #[.slice A0_0 l0_0.length c0_0, .slice A0_1 l0_1.length c0_1, .int .i64 a0_2] 29 (0, 0)) (by (with_reducible repeat (first | refine blk_drewN ?_ _ | refine blk_drew ?_ | refine blk_alloc ?_ _)); exact BK206.out) hb); have n1_ := Aside0.mk (below_step (by repeat (first | (with_reducible first | exact HB.out | apply below_alloc | apply pw_below_drewN | apply below_drew1 | refine below_set ?_ GE206.out) | exact HB.out)) hb); clear BK206; clear HB; have BK206 := n0_; have HB := n1_; clear n0_ n1_; (try clear hb); (try clear hb2); (try clear hk); (try clear hi)))
      repeat (go_quiet (first | (go_at_call 11; (try simp only [i64_w, i32_w]); (with_reducible refine (pledgelaw18_light.calls _ _ l0_0 _ _ l0_1 a0_2 true _ ?side1 ?side2 ?side3 ?side4 A12.out).mono ?_); (case side1 => repeat (first | exact (Kd.C_below HR0_0.out HB.out) | (with_reducible refine Kd.C_alloc ?_ _) | (with_reducible refine Kd.C_drewN ?_ _) | (with_reducible refine Kd.C_drew ?_))); (case side2 => exact HC0_0.out); (case side3 => repeat (first | exact (Kd.C_below HR0_1.out HB.out) | (with_reducible refine Kd.C_alloc ?_ _) | (with_reducible refine Kd.C_drewN ?_ _) | (with_reducible refine Kd.C_drew ?_))); (case side4 => exact HC0_1.out); rintro e w17 ⟨rfl, hb⟩; have n0_ := Aside0.mk (blk_below (g := gb206) (o := .cells #[.slice A0_0 l0_0.length c0_0, .slice A0_1 l0_1.length c0_1, .int .i64 a0_2] 29 (0, 0)) (by (with_reducible repeat (first | refine blk_drewN ?_ _ | refine blk_drew ?_ | refine blk_alloc ?_ _)); exact BK206.out) hb); have n1_ := Aside0.mk (below_step (by repeat (first | (with_reducible first | exact HB.out | apply below_alloc | apply pw_below_drewN | apply below_drew1 | refine below_set ?_ GE206.out) | exact HB.out)) hb); clear BK206; clear HB; have BK206 := n0_; have HB := n1_; clear n0_ n1_; (try clear hb); (try clear hb2); (try clear hk); (try clear hi))); try go_wp2_with (first | (go_at_call 11; (try simp only [i64_w, i32_w]); (with_reducible refine (pledgelaw18_light.calls _ _ l0_0 _ _ l0_1 a0_2 true _ ?side1 ?side2 ?side3 ?side4 A12.out).mono ?_); (case side1 => repeat (first | exact (Kd.C_below HR0_0.out HB.out) | (with_reducible refine Kd.C_alloc ?_ _) | (with_reducible refine Kd.C_drewN ?_ _) | (with_reducible refine Kd.C_drew ?_))); (case side2 => exact HC0_0.out); (case side3 => repeat (first | exact (Kd.C_below HR0_1.out HB.out) | (with_reducible refine Kd.C_alloc ?_ _) | (with_reducible refine Kd.C_drewN ?_ _) | (with_reducible refine Kd.C_drew ?_))); (case side4 => exact HC0_1.out); rintro e w17 ⟨rfl, hb⟩; have n0_ := Aside0.mk (blk_below (g := gb206) (o := .cells #[.slice A0_0 l0_0.length c0_0, .slice A0_1 l0_1.length c0_1, .int .i64 a0_2] 29 (0, 0)) (by (with_reducible repeat (first | refine blk_drewN ?_ _ | refine blk_drew ?_ | refine blk_alloc ?_ _)); exact BK206.out) hb); have n1_ := Aside0.mk (below_step (by repeat (first | (with_reducible first | exact HB.out | apply below_alloc | apply pw_below_drewN | apply below_drew1 | refine below_set ?_ GE206.out) | exact HB.out)) hb); clear BK206; clear HB; have BK206 := n0_; have HB := n1_; clear n0_ n1_; (try clear hb); (try clear hb2); (try clear hk); (try clear hi))))
      go_meet
      case rel => exact ⟨_, (true), (by first | rfl | (simp; done) | (simp [*]; done) | (simp [wrap64]; done) | (simp [wrap64]; omega)), H', ⟨by first | omega | exact Nat.le_refl _⟩, ⟨by (with_reducible repeat (first | refine blk_drewN ?_ _ | refine blk_drew ?_ | refine blk_alloc ?_ _)); exact BK206.out⟩, ⟨by repeat (first | (with_reducible first | exact HB.out | apply below_alloc | apply pw_below_drewN | apply below_drew1 | refine below_set ?_ GE206.out) | exact HB.out)⟩⟩
     ·
      rw [if_neg c15] at H
      have c15b0 : ((l1.length : Int) == 0) = false := beq_eq_false_iff_ne.mpr c15
      have c15b1 : ((l1.length : Int) != 0) = true := bne_iff_ne.mpr c15
      have c15b2 : ¬ (l1 = []) := fun h_ => c15 (by rw [h_]; rfl)
      (first | rw [c15b0] | (simp only [i64_w, i32_w]; rw [c15b0]) | skip)
      have H' := Aside0.mk H
      clear H
      have hcz18_0 : w11.cell? ⟨gb206, 0, none⟩ = some (.slice A0_0 l0_0.length c0_0) := (blk_cell BK206.out 0).trans rfl
      have hcz18_1 : w11.cell? ⟨gb206, 1, none⟩ = some (.slice A0_1 l0_1.length c0_1) := (blk_cell BK206.out 1).trans rfl
      have hcz18_2 : w11.cell? ⟨gb206, 2, none⟩ = some (.int .i64 a0_2) := (blk_cell BK206.out 2).trans rfl
      have hfz18_0 := blk_frozen BK206.out 0
      have hfz18_1 := blk_frozen BK206.out 1
      have hfz18_2 := blk_frozen BK206.out 2
      go_wp2_with (first | (go_at_call 11; (with_reducible refine (pledgelaw18_light.calls _ _ l0_0 _ _ l0_1 a0_2 true _ ?side1 ?side2 ?side3 ?side4 A12.out).mono ?_); (case side1 => repeat (first | exact (Kd.C_below HR0_0.out HB.out) | (with_reducible refine Kd.C_alloc ?_ _) | (with_reducible refine Kd.C_drewN ?_ _) | (with_reducible refine Kd.C_drew ?_))); (case side2 => exact HC0_0.out); (case side3 => repeat (first | exact (Kd.C_below HR0_1.out HB.out) | (with_reducible refine Kd.C_alloc ?_ _) | (with_reducible refine Kd.C_drewN ?_ _) | (with_reducible refine Kd.C_drew ?_))); (case side4 => exact HC0_1.out); rintro e w19 ⟨rfl, hb⟩; have n0_ := Aside0.mk (blk_below (g := gb206) (o := .cells #[.slice A0_0 l0_0.length c0_0, .slice A0_1 l0_1.length c0_1, .int .i64 a0_2] 29 (0, 0)) (by (with_reducible repeat (first | refine blk_drewN ?_ _ | refine blk_drew ?_ | refine blk_alloc ?_ _)); exact BK206.out) hb); have n1_ := Aside0.mk (below_step (by repeat (first | (with_reducible first | exact HB.out | apply below_alloc | apply pw_below_drewN | apply below_drew1 | refine below_set ?_ GE206.out) | exact HB.out)) hb); clear BK206; clear HB; have BK206 := n0_; have HB := n1_; clear n0_ n1_; (try clear hb); (try clear hb2); (try clear hk); (try clear hi)))
      repeat (go_quiet (first | (go_at_call 11; (try simp only [i64_w, i32_w]); (with_reducible refine (pledgelaw18_light.calls _ _ l0_0 _ _ l0_1 a0_2 true _ ?side1 ?side2 ?side3 ?side4 A12.out).mono ?_); (case side1 => repeat (first | exact (Kd.C_below HR0_0.out HB.out) | (with_reducible refine Kd.C_alloc ?_ _) | (with_reducible refine Kd.C_drewN ?_ _) | (with_reducible refine Kd.C_drew ?_))); (case side2 => exact HC0_0.out); (case side3 => repeat (first | exact (Kd.C_below HR0_1.out HB.out) | (with_reducible refine Kd.C_alloc ?_ _) | (with_reducible refine Kd.C_drewN ?_ _) | (with_reducible refine Kd.C_drew ?_))); (case side4 => exact HC0_1.out); rintro e w19 ⟨rfl, hb⟩; have n0_ := Aside0.mk (blk_below (g := gb206) (o := .cells #[.slice A0_0 l0_0.length c0_0, .slice A0_1 l0_1.length c0_1, .int .i64 a0_2] 29 (0, 0)) (by (with_reducible repeat (first | refine blk_drewN ?_ _ | refine blk_drew ?_ | refine blk_alloc ?_ _)); exact BK206.out) hb); have n1_ := Aside0.mk (below_step (by repeat (first | (with_reducible first | exact HB.out | apply below_alloc | apply pw_below_drewN | apply below_drew1 | refine below_set ?_ GE206.out) | exact HB.out)) hb); clear BK206; clear HB; have BK206 := n0_; have HB := n1_; clear n0_ n1_; (try clear hb); (try clear hb2); (try clear hk); (try clear hi))); try go_wp2_with (first | (go_at_call 11; (try simp only [i64_w, i32_w]); (with_reducible refine (pledgelaw18_light.calls _ _ l0_0 _ _ l0_1 a0_2 true _ ?side1 ?side2 ?side3 ?side4 A12.out).mono ?_); (case side1 => repeat (first | exact (Kd.C_below HR0_0.out HB.out) | (with_reducible refine Kd.C_alloc ?_ _) | (with_reducible refine Kd.C_drewN ?_ _) | (with_reducible refine Kd.C_drew ?_))); (case side2 => exact HC0_0.out); (case side3 => repeat (first | exact (Kd.C_below HR0_1.out HB.out) | (with_reducible refine Kd.C_alloc ?_ _) | (with_reducible refine Kd.C_drewN ?_ _) | (with_reducible refine Kd.C_drew ?_))); (case side4 => exact HC0_1.out); rintro e w19 ⟨rfl, hb⟩; have n0_ := Aside0.mk (blk_below (g := gb206) (o := .cells #[.slice A0_0 l0_0.length c0_0, .slice A0_1 l0_1.length c0_1, .int .i64 a0_2] 29 (0, 0)) (by (with_reducible repeat (first | refine blk_drewN ?_ _ | refine blk_drew ?_ | refine blk_alloc ?_ _)); exact BK206.out) hb); have n1_ := Aside0.mk (below_step (by repeat (first | (with_reducible first | exact HB.out | apply below_alloc | apply pw_below_drewN | apply below_drew1 | refine below_set ?_ GE206.out) | exact HB.out)) hb); clear BK206; clear HB; have BK206 := n0_; have HB := n1_; clear n0_ n1_; (try clear hb); (try clear hb2); (try clear hk); (try clear hi))))
      go_meet
      case rel => exact ⟨_, (!true), (by first | rfl | (simp; done) | (simp [*]; done) | (simp [wrap64]; done) | (simp [wrap64]; omega)), H', ⟨by first | omega | exact Nat.le_refl _⟩, ⟨by (with_reducible repeat (first | refine blk_drewN ?_ _ | refine blk_drew ?_ | refine blk_alloc ?_ _)); exact BK206.out⟩, ⟨by repeat (first | (with_reducible first | exact HB.out | apply below_alloc | apply pw_below_drewN | apply below_drew1 | refine below_set ?_ GE206.out) | exact HB.out)⟩⟩
    ·
     replace c14 := Bool.eq_false_iff.mpr c14
     subst c14
     have H1 : (pledgelaw18_LotsGrow.j0 k l1 a2 true t208 true l0_0 l0_1 a0_2) = some r := by rw [if_neg (show ¬ (false = true) by decide)] at H; exact H
     clear H
     have H := H1
     clear H1
     have H' := Aside0.mk H
     clear H
     have hcz20_0 : w11.cell? ⟨gb206, 0, none⟩ = some (.slice A0_0 l0_0.length c0_0) := (blk_cell BK206.out 0).trans rfl
     have hcz20_1 : w11.cell? ⟨gb206, 1, none⟩ = some (.slice A0_1 l0_1.length c0_1) := (blk_cell BK206.out 1).trans rfl
     have hcz20_2 : w11.cell? ⟨gb206, 2, none⟩ = some (.int .i64 a0_2) := (blk_cell BK206.out 2).trans rfl
     have hfz20_0 := blk_frozen BK206.out 0
     have hfz20_1 := blk_frozen BK206.out 1
     have hfz20_2 := blk_frozen BK206.out 2
     go_wp2_with (first | (go_at_call 11; (with_reducible refine (pledgelaw18_light.calls _ _ l0_0 _ _ l0_1 a0_2 true _ ?side1 ?side2 ?side3 ?side4 A12.out).mono ?_); (case side1 => repeat (first | exact (Kd.C_below HR0_0.out HB.out) | (with_reducible refine Kd.C_alloc ?_ _) | (with_reducible refine Kd.C_drewN ?_ _) | (with_reducible refine Kd.C_drew ?_))); (case side2 => exact HC0_0.out); (case side3 => repeat (first | exact (Kd.C_below HR0_1.out HB.out) | (with_reducible refine Kd.C_alloc ?_ _) | (with_reducible refine Kd.C_drewN ?_ _) | (with_reducible refine Kd.C_drew ?_))); (case side4 => exact HC0_1.out); rintro e w21 ⟨rfl, hb⟩; have n0_ := Aside0.mk (blk_below (g := gb206) (o := .cells #[.slice A0_0 l0_0.length c0_0, .slice A0_1 l0_1.length c0_1, .int .i64 a0_2] 29 (0, 0)) (by (with_reducible repeat (first | refine blk_drewN ?_ _ | refine blk_drew ?_ | refine blk_alloc ?_ _)); exact BK206.out) hb); have n1_ := Aside0.mk (below_step (by repeat (first | (with_reducible first | exact HB.out | apply below_alloc | apply pw_below_drewN | apply below_drew1 | refine below_set ?_ GE206.out) | exact HB.out)) hb); clear BK206; clear HB; have BK206 := n0_; have HB := n1_; clear n0_ n1_; (try clear hb); (try clear hb2); (try clear hk); (try clear hi)))
     repeat (go_quiet (first | (go_at_call 11; (try simp only [i64_w, i32_w]); (with_reducible refine (pledgelaw18_light.calls _ _ l0_0 _ _ l0_1 a0_2 true _ ?side1 ?side2 ?side3 ?side4 A12.out).mono ?_); (case side1 => repeat (first | exact (Kd.C_below HR0_0.out HB.out) | (with_reducible refine Kd.C_alloc ?_ _) | (with_reducible refine Kd.C_drewN ?_ _) | (with_reducible refine Kd.C_drew ?_))); (case side2 => exact HC0_0.out); (case side3 => repeat (first | exact (Kd.C_below HR0_1.out HB.out) | (with_reducible refine Kd.C_alloc ?_ _) | (with_reducible refine Kd.C_drewN ?_ _) | (with_reducible refine Kd.C_drew ?_))); (case side4 => exact HC0_1.out); rintro e w21 ⟨rfl, hb⟩; have n0_ := Aside0.mk (blk_below (g := gb206) (o := .cells #[.slice A0_0 l0_0.length c0_0, .slice A0_1 l0_1.length c0_1, .int .i64 a0_2] 29 (0, 0)) (by (with_reducible repeat (first | refine blk_drewN ?_ _ | refine blk_drew ?_ | refine blk_alloc ?_ _)); exact BK206.out) hb); have n1_ := Aside0.mk (below_step (by repeat (first | (with_reducible first | exact HB.out | apply below_alloc | apply pw_below_drewN | apply below_drew1 | refine below_set ?_ GE206.out) | exact HB.out)) hb); clear BK206; clear HB; have BK206 := n0_; have HB := n1_; clear n0_ n1_; (try clear hb); (try clear hb2); (try clear hk); (try clear hi))); try go_wp2_with (first | (go_at_call 11; (try simp only [i64_w, i32_w]); (with_reducible refine (pledgelaw18_light.calls _ _ l0_0 _ _ l0_1 a0_2 true _ ?side1 ?side2 ?side3 ?side4 A12.out).mono ?_); (case side1 => repeat (first | exact (Kd.C_below HR0_0.out HB.out) | (with_reducible refine Kd.C_alloc ?_ _) | (with_reducible refine Kd.C_drewN ?_ _) | (with_reducible refine Kd.C_drew ?_))); (case side2 => exact HC0_0.out); (case side3 => repeat (first | exact (Kd.C_below HR0_1.out HB.out) | (with_reducible refine Kd.C_alloc ?_ _) | (with_reducible refine Kd.C_drewN ?_ _) | (with_reducible refine Kd.C_drew ?_))); (case side4 => exact HC0_1.out); rintro e w21 ⟨rfl, hb⟩; have n0_ := Aside0.mk (blk_below (g := gb206) (o := .cells #[.slice A0_0 l0_0.length c0_0, .slice A0_1 l0_1.length c0_1, .int .i64 a0_2] 29 (0, 0)) (by (with_reducible repeat (first | refine blk_drewN ?_ _ | refine blk_drew ?_ | refine blk_alloc ?_ _)); exact BK206.out) hb); have n1_ := Aside0.mk (below_step (by repeat (first | (with_reducible first | exact HB.out | apply below_alloc | apply pw_below_drewN | apply below_drew1 | refine below_set ?_ GE206.out) | exact HB.out)) hb); clear BK206; clear HB; have BK206 := n0_; have HB := n1_; clear n0_ n1_; (try clear hb); (try clear hb2); (try clear hk); (try clear hi))))
     go_meet
     case rel => exact ⟨_, (true), (by first | rfl | (simp; done) | (simp [*]; done) | (simp [wrap64]; done) | (simp [wrap64]; omega)), H', ⟨by first | omega | exact Nat.le_refl _⟩, ⟨by (with_reducible repeat (first | refine blk_drewN ?_ _ | refine blk_drew ?_ | refine blk_alloc ?_ _)); exact BK206.out⟩, ⟨by repeat (first | (with_reducible first | exact HB.out | apply below_alloc | apply pw_below_drewN | apply below_drew1 | refine below_set ?_ GE206.out) | exact HB.out)⟩⟩
   ·
    replace c13 := Bool.eq_false_iff.mpr c13
    subst c13
    have H1 : (pledgelaw18_LotsGrow.j0 k l1 a2 true t208 true l0_0 l0_1 a0_2) = some r := by rw [if_neg (show ¬ (false = true) by decide)] at H; exact H
    clear H
    have H := H1
    clear H1
    have H' := Aside0.mk H
    clear H
    have hcz22_0 : w11.cell? ⟨gb206, 0, none⟩ = some (.slice A0_0 l0_0.length c0_0) := (blk_cell BK206.out 0).trans rfl
    have hcz22_1 : w11.cell? ⟨gb206, 1, none⟩ = some (.slice A0_1 l0_1.length c0_1) := (blk_cell BK206.out 1).trans rfl
    have hcz22_2 : w11.cell? ⟨gb206, 2, none⟩ = some (.int .i64 a0_2) := (blk_cell BK206.out 2).trans rfl
    have hfz22_0 := blk_frozen BK206.out 0
    have hfz22_1 := blk_frozen BK206.out 1
    have hfz22_2 := blk_frozen BK206.out 2
    go_wp2_with (first | (go_at_call 11; (with_reducible refine (pledgelaw18_light.calls _ _ l0_0 _ _ l0_1 a0_2 false _ ?side1 ?side2 ?side3 ?side4 A12.out).mono ?_); (case side1 => repeat (first | exact (Kd.C_below HR0_0.out HB.out) | (with_reducible refine Kd.C_alloc ?_ _) | (with_reducible refine Kd.C_drewN ?_ _) | (with_reducible refine Kd.C_drew ?_))); (case side2 => exact HC0_0.out); (case side3 => repeat (first | exact (Kd.C_below HR0_1.out HB.out) | (with_reducible refine Kd.C_alloc ?_ _) | (with_reducible refine Kd.C_drewN ?_ _) | (with_reducible refine Kd.C_drew ?_))); (case side4 => exact HC0_1.out); rintro e w23 ⟨rfl, hb⟩; have n0_ := Aside0.mk (blk_below (g := gb206) (o := .cells #[.slice A0_0 l0_0.length c0_0, .slice A0_1 l0_1.length c0_1, .int .i64 a0_2] 29 (0, 0)) (by (with_reducible repeat (first | refine blk_drewN ?_ _ | refine blk_drew ?_ | refine blk_alloc ?_ _)); exact BK206.out) hb); have n1_ := Aside0.mk (below_step (by repeat (first | (with_reducible first | exact HB.out | apply below_alloc | apply pw_below_drewN | apply below_drew1 | refine below_set ?_ GE206.out) | exact HB.out)) hb); clear BK206; clear HB; have BK206 := n0_; have HB := n1_; clear n0_ n1_; (try clear hb); (try clear hb2); (try clear hk); (try clear hi)))
    repeat (go_quiet (first | (go_at_call 11; (try simp only [i64_w, i32_w]); (with_reducible refine (pledgelaw18_light.calls _ _ l0_0 _ _ l0_1 a0_2 false _ ?side1 ?side2 ?side3 ?side4 A12.out).mono ?_); (case side1 => repeat (first | exact (Kd.C_below HR0_0.out HB.out) | (with_reducible refine Kd.C_alloc ?_ _) | (with_reducible refine Kd.C_drewN ?_ _) | (with_reducible refine Kd.C_drew ?_))); (case side2 => exact HC0_0.out); (case side3 => repeat (first | exact (Kd.C_below HR0_1.out HB.out) | (with_reducible refine Kd.C_alloc ?_ _) | (with_reducible refine Kd.C_drewN ?_ _) | (with_reducible refine Kd.C_drew ?_))); (case side4 => exact HC0_1.out); rintro e w23 ⟨rfl, hb⟩; have n0_ := Aside0.mk (blk_below (g := gb206) (o := .cells #[.slice A0_0 l0_0.length c0_0, .slice A0_1 l0_1.length c0_1, .int .i64 a0_2] 29 (0, 0)) (by (with_reducible repeat (first | refine blk_drewN ?_ _ | refine blk_drew ?_ | refine blk_alloc ?_ _)); exact BK206.out) hb); have n1_ := Aside0.mk (below_step (by repeat (first | (with_reducible first | exact HB.out | apply below_alloc | apply pw_below_drewN | apply below_drew1 | refine below_set ?_ GE206.out) | exact HB.out)) hb); clear BK206; clear HB; have BK206 := n0_; have HB := n1_; clear n0_ n1_; (try clear hb); (try clear hb2); (try clear hk); (try clear hi))); try go_wp2_with (first | (go_at_call 11; (try simp only [i64_w, i32_w]); (with_reducible refine (pledgelaw18_light.calls _ _ l0_0 _ _ l0_1 a0_2 false _ ?side1 ?side2 ?side3 ?side4 A12.out).mono ?_); (case side1 => repeat (first | exact (Kd.C_below HR0_0.out HB.out) | (with_reducible refine Kd.C_alloc ?_ _) | (with_reducible refine Kd.C_drewN ?_ _) | (with_reducible refine Kd.C_drew ?_))); (case side2 => exact HC0_0.out); (case side3 => repeat (first | exact (Kd.C_below HR0_1.out HB.out) | (with_reducible refine Kd.C_alloc ?_ _) | (with_reducible refine Kd.C_drewN ?_ _) | (with_reducible refine Kd.C_drew ?_))); (case side4 => exact HC0_1.out); rintro e w23 ⟨rfl, hb⟩; have n0_ := Aside0.mk (blk_below (g := gb206) (o := .cells #[.slice A0_0 l0_0.length c0_0, .slice A0_1 l0_1.length c0_1, .int .i64 a0_2] 29 (0, 0)) (by (with_reducible repeat (first | refine blk_drewN ?_ _ | refine blk_drew ?_ | refine blk_alloc ?_ _)); exact BK206.out) hb); have n1_ := Aside0.mk (below_step (by repeat (first | (with_reducible first | exact HB.out | apply below_alloc | apply pw_below_drewN | apply below_drew1 | refine below_set ?_ GE206.out) | exact HB.out)) hb); clear BK206; clear HB; have BK206 := n0_; have HB := n1_; clear n0_ n1_; (try clear hb); (try clear hb2); (try clear hk); (try clear hi))))
    go_meet
    case rel => exact ⟨_, (true), (by first | rfl | (simp; done) | (simp [*]; done) | (simp [wrap64]; done) | (simp [wrap64]; omega)), H', ⟨by first | omega | exact Nat.le_refl _⟩, ⟨by (with_reducible repeat (first | refine blk_drewN ?_ _ | refine blk_drew ?_ | refine blk_alloc ?_ _)); exact BK206.out⟩, ⟨by repeat (first | (with_reducible first | exact HB.out | apply below_alloc | apply pw_below_drewN | apply below_drew1 | refine below_set ?_ GE206.out) | exact HB.out)⟩⟩
  case rest =>
   clear HC7
   try clear c1
   try clear p2
   try clear c5
   try clear c13
   try clear c14
   try clear c15
   try clear c15b0
   try clear c15b1
   try clear c15b2
   try clear hcz10_0
   try clear hcz10_1
   try clear hcz10_2
   try clear hcz16_0
   try clear hcz16_1
   try clear hcz16_2
   try clear hcz18_0
   try clear hcz18_1
   try clear hcz18_2
   try clear hcz20_0
   try clear hcz20_1
   try clear hcz20_2
   try clear hcz22_0
   try clear hcz22_1
   try clear hcz22_2
   try clear hfz10_0
   try clear hfz10_1
   try clear hfz10_2
   try clear hfz16_0
   try clear hfz16_1
   try clear hfz16_2
   try clear hfz18_0
   try clear hfz18_1
   try clear hfz18_2
   try clear hfz20_0
   try clear hfz20_1
   try clear hfz20_2
   try clear hfz22_0
   try clear hfz22_1
   try clear hfz22_2
   obtain ⟨kq, x47_6, rfl, HA, HJ6, BK206, HB⟩ := hcut
   cases kq with
   | zero => exact absurd HA.out (by simp [pledgelaw18_LotsGrow.j0])
   | succ kj6 =>
    have H := HA.out
    clear HA
    simp only [pledgelaw18_LotsGrow.j0] at H
    by_cases c24 : x47_6 = true
    ·
     subst c24
     have H1 : (some true) = some r := by rw [if_pos rfl] at H; exact H
     clear H
     have H := H1
     clear H1
     obtain rfl := Option.some.inj H
     go_wp2
     repeat (go_quiet (fail); try go_wp2)
     go_ret
     exact ⟨by first | rfl | (simp [errW_none, errW_some] <;> rfl) | (exfalso; simp_all; done) | (simp [*, errW_none, errW_some] <;> rfl), by repeat (first | (with_reducible first | exact HB.out | apply below_alloc | apply pw_below_drewN | apply below_drew1 | refine below_set ?_ GE206.out) | exact HB.out)⟩
    ·
     replace c24 := Bool.eq_false_iff.mpr c24
     subst c24
     have H1 : ((pledgeworld_Number.f a2 (l1.length : Int)).bind fun t211 => (if 0 ≤ t211 then (if t211 < (l1.length : Int) then (if t211 < (l0_0.length : Int) then (if (rd l1 t211) = ((rd_T25 l0_0 t211).f0) then (some true) else ((pledgeref_Ints.f kj6 l1).bind fun t214 => (if t211 < (t214.length : Int) then ((some (t214.set (t211 : Int).toNat (wrap64 ((rd t214 t211) + 1)) : List Int)).bind fun y218 => ((lots_Worth.f kj6 l0_0 l0_1 a0_2 y218).bind fun bt219 => ((lots_Cost.f kj6 l0_0 l0_1 a0_2 l1).bind fun bt221 => ((lots_Cost.f kj6 l0_0 l0_1 a0_2 y218).bind fun bt223 => (pledgelaw18_LotsGrow.l0 kj6 l1 t211 t208 y218 bt219.1 bt219.2 bt221.1 bt223.1 0 l0_0 l0_1 a0_2 l0_0 ([] : List Int) a0_2))))) else (none)))) else (none)) else (none)) else (none))) = some r := by rw [if_neg (show ¬ (false = true) by decide)] at H; exact H
     clear H
     have H := H1
     clear H1
     replace H := Option.bind_eq_some_iff.mp H
     obtain ⟨t211, A250, H⟩ := H
     replace H : (if 0 ≤ t211 then (if t211 < (l1.length : Int) then (if t211 < (l0_0.length : Int) then (if (rd l1 t211) = ((rd_T25 l0_0 t211).f0) then (some true) else ((pledgeref_Ints.f kj6 l1).bind fun t214 => (if t211 < (t214.length : Int) then ((some (t214.set (t211 : Int).toNat (wrap64 ((rd t214 t211) + 1)) : List Int)).bind fun y218 => ((lots_Worth.f kj6 l0_0 l0_1 a0_2 y218).bind fun bt219 => ((lots_Cost.f kj6 l0_0 l0_1 a0_2 l1).bind fun bt221 => ((lots_Cost.f kj6 l0_0 l0_1 a0_2 y218).bind fun bt223 => (pledgelaw18_LotsGrow.l0 kj6 l1 t211 t208 y218 bt219.1 bt219.2 bt221.1 bt223.1 0 l0_0 l0_1 a0_2 l0_0 ([] : List Int) a0_2))))) else (none)))) else (none)) else (none)) else (none)) = some r := H
     have A25 := Aside0.mk A250
     clear A250
     by_cases c26 : 0 ≤ t211
     ·
      rw [if_pos c26] at H
      have c26b0 : decide (0 ≤ t211) = true := decide_eq_true c26
      clear c26
      by_cases c27 : t211 < (l1.length : Int)
      ·
       rw [if_pos c27] at H
       have c27b0 : decide (t211 < (l1.length : Int)) = true := decide_eq_true c27
       clear c27
       by_cases c28 : t211 < (l0_0.length : Int)
       ·
        rw [if_pos c28] at H
        have c28b0 : decide (t211 < (l0_0.length : Int)) = true := decide_eq_true c28
        clear c28
        by_cases c29 : (rd l1 t211) = ((rd_T25 l0_0 t211).f0)
        ·
         rw [if_pos c29] at H
         have c29b0 : ((rd l1 t211) == ((rd_T25 l0_0 t211).f0)) = true := beq_iff_eq.mpr c29
         have c29b1 : ((rd l1 t211) != ((rd_T25 l0_0 t211).f0)) = false := bne_eq_false_iff_eq.mpr c29
         clear c29
         obtain rfl := Option.some.inj H
         go_wp2_with (first | (go_at_call 9; (with_reducible refine (pledgeworld_Number.calls a2 (l1.length : Int) t211 _ A25.out).mono ?_); rintro e w' ⟨rfl, ⟨nd, rfl⟩⟩; (try first | exact ⟨rfl, _, World.drewN_drewN _ _ _⟩ | exact ⟨rfl, _, Eq.trans (World.drewN_drewN _ _ _) (congrArg (World.drewN _) (Nat.add_assoc _ _ _))⟩); have p212 : 0 ≤ (t211 : Int) := of_decide_eq_true (by first | (with_reducible assumption) | assumption); have q212 : t211 < (l1.length : Int) := of_decide_eq_true (by first | (with_reducible assumption) | assumption); obtain ⟨ad212, e212, hx212_0⟩ := Kd.at_int HR1.out t211 p212 q212; cases e212; replace hx212_0 := (HB.out.cell (World.block_lt_of_cell? w _ hx212_0)).trans hx212_0; replace p212 := eq_true p212; replace q212 := eq_true q212; have hcz30_0 : wc.cell? ⟨gb206, 0, none⟩ = some (.slice A0_0 l0_0.length c0_0) := (blk_cell BK206.out 0).trans rfl; have hcz30_1 : wc.cell? ⟨gb206, 1, none⟩ = some (.slice A0_1 l0_1.length c0_1) := (blk_cell BK206.out 1).trans rfl; have hcz30_2 : wc.cell? ⟨gb206, 2, none⟩ = some (.int .i64 a0_2) := (blk_cell BK206.out 2).trans rfl; have hfz30_0 := blk_frozen BK206.out 0; have hfz30_1 := blk_frozen BK206.out 1; have hfz30_2 := blk_frozen BK206.out 2; have p213 : 0 ≤ (t211 : Int) := of_decide_eq_true (by first | (with_reducible assumption) | assumption); have q213 : t211 < (l0_0.length : Int) := of_decide_eq_true (by first | (with_reducible assumption) | assumption); obtain ⟨ad213, e213, hx213_0, hx213_1, hx213_2, hx213_3⟩ := at_T25 HR0_0.out t211 p213 q213; cases e213; replace hx213_0 := (HB.out.cell (World.block_lt_of_cell? w _ hx213_0)).trans hx213_0; replace hx213_1 := (HB.out.cell (World.block_lt_of_cell? w _ hx213_1)).trans hx213_1; replace hx213_2 := (HB.out.cell (World.block_lt_of_cell? w _ hx213_2)).trans hx213_2; replace hx213_3 := (HB.out.cell (World.block_lt_of_cell? w _ hx213_3)).trans hx213_3; replace p213 := eq_true p213; replace q213 := eq_true q213))
         repeat (go_quiet (first | (go_at_call 9; (try simp only [i64_w, i32_w]); (with_reducible refine (pledgeworld_Number.calls a2 (l1.length : Int) t211 _ A25.out).mono ?_); rintro e w' ⟨rfl, ⟨nd, rfl⟩⟩; (try first | exact ⟨rfl, _, World.drewN_drewN _ _ _⟩ | exact ⟨rfl, _, Eq.trans (World.drewN_drewN _ _ _) (congrArg (World.drewN _) (Nat.add_assoc _ _ _))⟩); have p212 : 0 ≤ (t211 : Int) := of_decide_eq_true (by first | (with_reducible assumption) | assumption); have q212 : t211 < (l1.length : Int) := of_decide_eq_true (by first | (with_reducible assumption) | assumption); obtain ⟨ad212, e212, hx212_0⟩ := Kd.at_int HR1.out t211 p212 q212; cases e212; replace hx212_0 := (HB.out.cell (World.block_lt_of_cell? w _ hx212_0)).trans hx212_0; replace p212 := eq_true p212; replace q212 := eq_true q212; have hcz30_0 : wc.cell? ⟨gb206, 0, none⟩ = some (.slice A0_0 l0_0.length c0_0) := (blk_cell BK206.out 0).trans rfl; have hcz30_1 : wc.cell? ⟨gb206, 1, none⟩ = some (.slice A0_1 l0_1.length c0_1) := (blk_cell BK206.out 1).trans rfl; have hcz30_2 : wc.cell? ⟨gb206, 2, none⟩ = some (.int .i64 a0_2) := (blk_cell BK206.out 2).trans rfl; have hfz30_0 := blk_frozen BK206.out 0; have hfz30_1 := blk_frozen BK206.out 1; have hfz30_2 := blk_frozen BK206.out 2; have p213 : 0 ≤ (t211 : Int) := of_decide_eq_true (by first | (with_reducible assumption) | assumption); have q213 : t211 < (l0_0.length : Int) := of_decide_eq_true (by first | (with_reducible assumption) | assumption); obtain ⟨ad213, e213, hx213_0, hx213_1, hx213_2, hx213_3⟩ := at_T25 HR0_0.out t211 p213 q213; cases e213; replace hx213_0 := (HB.out.cell (World.block_lt_of_cell? w _ hx213_0)).trans hx213_0; replace hx213_1 := (HB.out.cell (World.block_lt_of_cell? w _ hx213_1)).trans hx213_1; replace hx213_2 := (HB.out.cell (World.block_lt_of_cell? w _ hx213_2)).trans hx213_2; replace hx213_3 := (HB.out.cell (World.block_lt_of_cell? w _ hx213_3)).trans hx213_3; replace p213 := eq_true p213; replace q213 := eq_true q213)); try go_wp2_with (first | (go_at_call 9; (try simp only [i64_w, i32_w]); (with_reducible refine (pledgeworld_Number.calls a2 (l1.length : Int) t211 _ A25.out).mono ?_); rintro e w' ⟨rfl, ⟨nd, rfl⟩⟩; (try first | exact ⟨rfl, _, World.drewN_drewN _ _ _⟩ | exact ⟨rfl, _, Eq.trans (World.drewN_drewN _ _ _) (congrArg (World.drewN _) (Nat.add_assoc _ _ _))⟩); have p212 : 0 ≤ (t211 : Int) := of_decide_eq_true (by first | (with_reducible assumption) | assumption); have q212 : t211 < (l1.length : Int) := of_decide_eq_true (by first | (with_reducible assumption) | assumption); obtain ⟨ad212, e212, hx212_0⟩ := Kd.at_int HR1.out t211 p212 q212; cases e212; replace hx212_0 := (HB.out.cell (World.block_lt_of_cell? w _ hx212_0)).trans hx212_0; replace p212 := eq_true p212; replace q212 := eq_true q212; have hcz30_0 : wc.cell? ⟨gb206, 0, none⟩ = some (.slice A0_0 l0_0.length c0_0) := (blk_cell BK206.out 0).trans rfl; have hcz30_1 : wc.cell? ⟨gb206, 1, none⟩ = some (.slice A0_1 l0_1.length c0_1) := (blk_cell BK206.out 1).trans rfl; have hcz30_2 : wc.cell? ⟨gb206, 2, none⟩ = some (.int .i64 a0_2) := (blk_cell BK206.out 2).trans rfl; have hfz30_0 := blk_frozen BK206.out 0; have hfz30_1 := blk_frozen BK206.out 1; have hfz30_2 := blk_frozen BK206.out 2; have p213 : 0 ≤ (t211 : Int) := of_decide_eq_true (by first | (with_reducible assumption) | assumption); have q213 : t211 < (l0_0.length : Int) := of_decide_eq_true (by first | (with_reducible assumption) | assumption); obtain ⟨ad213, e213, hx213_0, hx213_1, hx213_2, hx213_3⟩ := at_T25 HR0_0.out t211 p213 q213; cases e213; replace hx213_0 := (HB.out.cell (World.block_lt_of_cell? w _ hx213_0)).trans hx213_0; replace hx213_1 := (HB.out.cell (World.block_lt_of_cell? w _ hx213_1)).trans hx213_1; replace hx213_2 := (HB.out.cell (World.block_lt_of_cell? w _ hx213_2)).trans hx213_2; replace hx213_3 := (HB.out.cell (World.block_lt_of_cell? w _ hx213_3)).trans hx213_3; replace p213 := eq_true p213; replace q213 := eq_true q213)))
         go_ret
         exact ⟨by first | rfl | (simp [errW_none, errW_some] <;> rfl) | (exfalso; simp_all; done) | (simp [*, errW_none, errW_some] <;> rfl), by repeat (first | (with_reducible first | exact HB.out | apply below_alloc | apply pw_below_drewN | apply below_drew1 | refine below_set ?_ GE206.out) | exact HB.out)⟩
        ·
         rw [if_neg c29] at H
         have c29b0 : ((rd l1 t211) == ((rd_T25 l0_0 t211).f0)) = false := beq_eq_false_iff_ne.mpr c29
         have c29b1 : ((rd l1 t211) != ((rd_T25 l0_0 t211).f0)) = true := bne_iff_ne.mpr c29
         replace H := Option.bind_eq_some_iff.mp H
         obtain ⟨t214, A310, H⟩ := H
         replace H : (if t211 < (t214.length : Int) then ((some (t214.set (t211 : Int).toNat (wrap64 ((rd t214 t211) + 1)) : List Int)).bind fun y218 => ((lots_Worth.f kj6 l0_0 l0_1 a0_2 y218).bind fun bt219 => ((lots_Cost.f kj6 l0_0 l0_1 a0_2 l1).bind fun bt221 => ((lots_Cost.f kj6 l0_0 l0_1 a0_2 y218).bind fun bt223 => (pledgelaw18_LotsGrow.l0 kj6 l1 t211 t208 y218 bt219.1 bt219.2 bt221.1 bt223.1 0 l0_0 l0_1 a0_2 l0_0 ([] : List Int) a0_2))))) else (none)) = some r := H
         have A31 := Aside0.mk A310
         clear A310
         by_cases c32 : t211 < (t214.length : Int)
         ·
          rw [if_pos c32] at H
          have c32b0 : decide (t211 < (t214.length : Int)) = true := decide_eq_true c32
          clear c32
          obtain ⟨y218, hy218⟩ : ∃ y_ : List Int, y_ = (t214.set (t211 : Int).toNat (wrap64 ((rd t214 t211) + 1))) := ⟨_, rfl⟩
          replace H : ((lots_Worth.f kj6 l0_0 l0_1 a0_2 y218).bind fun bt219 => ((lots_Cost.f kj6 l0_0 l0_1 a0_2 l1).bind fun bt221 => ((lots_Cost.f kj6 l0_0 l0_1 a0_2 y218).bind fun bt223 => (pledgelaw18_LotsGrow.l0 kj6 l1 t211 t208 y218 bt219.1 bt219.2 bt221.1 bt223.1 0 l0_0 l0_1 a0_2 l0_0 ([] : List Int) a0_2)))) = some r := by first | (rw [hy218]; with_reducible exact H) | (have H2_ := (Option.bind_some _ _).symm.trans H; rw [hy218]; with_reducible exact H2_) | (have H2_ := (Option.bind_some _ _).symm.trans H; with_reducible exact H2_) | with_reducible exact H | (rw [hy218]; exact H) | exact H
          have Ny218 := Aside0.mk hy218
          clear hy218
          replace H := Option.bind_eq_some_iff.mp H
          obtain ⟨⟨t219, t220⟩, A340, H⟩ := H
          replace H : ((lots_Cost.f kj6 l0_0 l0_1 a0_2 l1).bind fun bt221 => ((lots_Cost.f kj6 l0_0 l0_1 a0_2 y218).bind fun bt223 => (pledgelaw18_LotsGrow.l0 kj6 l1 t211 t208 y218 t219 t220 bt221.1 bt223.1 0 l0_0 l0_1 a0_2 l0_0 ([] : List Int) a0_2))) = some r := H
          have A34 := Aside0.mk A340
          clear A340
          replace H := Option.bind_eq_some_iff.mp H
          obtain ⟨⟨t221, t222⟩, A350, H⟩ := H
          replace H : ((lots_Cost.f kj6 l0_0 l0_1 a0_2 y218).bind fun bt223 => (pledgelaw18_LotsGrow.l0 kj6 l1 t211 t208 y218 t219 t220 t221 bt223.1 0 l0_0 l0_1 a0_2 l0_0 ([] : List Int) a0_2)) = some r := H
          have A35 := Aside0.mk A350
          clear A350
          replace H := Option.bind_eq_some_iff.mp H
          obtain ⟨⟨t223, t224⟩, A360, H⟩ := H
          replace H : (pledgelaw18_LotsGrow.l0 kj6 l1 t211 t208 y218 t219 t220 t221 t223 0 l0_0 l0_1 a0_2 l0_0 ([] : List Int) a0_2) = some r := H
          have A36 := Aside0.mk A360
          clear A360
          have H' := Aside0.mk H
          clear H
          go_wp2_with (first | (go_at_call 9; (with_reducible refine (pledgeworld_Number.calls a2 (l1.length : Int) t211 _ A25.out).mono ?_); rintro e w' ⟨rfl, ⟨nd, rfl⟩⟩; (try first | exact ⟨rfl, _, World.drewN_drewN _ _ _⟩ | exact ⟨rfl, _, Eq.trans (World.drewN_drewN _ _ _) (congrArg (World.drewN _) (Nat.add_assoc _ _ _))⟩); have p212 : 0 ≤ (t211 : Int) := of_decide_eq_true (by first | (with_reducible assumption) | assumption); have q212 : t211 < (l1.length : Int) := of_decide_eq_true (by first | (with_reducible assumption) | assumption); obtain ⟨ad212, e212, hx212_0⟩ := Kd.at_int HR1.out t211 p212 q212; cases e212; replace hx212_0 := (HB.out.cell (World.block_lt_of_cell? w _ hx212_0)).trans hx212_0; replace p212 := eq_true p212; replace q212 := eq_true q212; have hcz37_0 : wc.cell? ⟨gb206, 0, none⟩ = some (.slice A0_0 l0_0.length c0_0) := (blk_cell BK206.out 0).trans rfl; have hcz37_1 : wc.cell? ⟨gb206, 1, none⟩ = some (.slice A0_1 l0_1.length c0_1) := (blk_cell BK206.out 1).trans rfl; have hcz37_2 : wc.cell? ⟨gb206, 2, none⟩ = some (.int .i64 a0_2) := (blk_cell BK206.out 2).trans rfl; have hfz37_0 := blk_frozen BK206.out 0; have hfz37_1 := blk_frozen BK206.out 1; have hfz37_2 := blk_frozen BK206.out 2; have p213 : 0 ≤ (t211 : Int) := of_decide_eq_true (by first | (with_reducible assumption) | assumption); have q213 : t211 < (l0_0.length : Int) := of_decide_eq_true (by first | (with_reducible assumption) | assumption); obtain ⟨ad213, e213, hx213_0, hx213_1, hx213_2, hx213_3⟩ := at_T25 HR0_0.out t211 p213 q213; cases e213; replace hx213_0 := (HB.out.cell (World.block_lt_of_cell? w _ hx213_0)).trans hx213_0; replace hx213_1 := (HB.out.cell (World.block_lt_of_cell? w _ hx213_1)).trans hx213_1; replace hx213_2 := (HB.out.cell (World.block_lt_of_cell? w _ hx213_2)).trans hx213_2; replace hx213_3 := (HB.out.cell (World.block_lt_of_cell? w _ hx213_3)).trans hx213_3; replace p213 := eq_true p213; replace q213 := eq_true q213) | (go_at_call 15; (with_reducible refine (pledgeref_Ints.calls kj6 _ _ l1 t214 _ ?side1 ?side2 A31.out).mono ?_); (case side1 => repeat (first | exact (Kd.C_below HR1.out (by repeat (first | (with_reducible first | exact HB.out | apply below_alloc | apply pw_below_drewN | apply below_drew1 | refine below_set ?_ GE206.out) | exact HB.out))) | (with_reducible refine Kd.C_alloc ?_ _) | (with_reducible refine Kd.C_drewN ?_ _) | (with_reducible refine Kd.C_drew ?_))); (case side2 => exact HC1.out); rintro e w38 ⟨v215, rfl, ho0, hb⟩; have n0_ := Aside0.mk (Kd.R_lower ho0 (below_size (by repeat (first | (with_reducible first | exact HB.out | apply below_alloc | apply pw_below_drewN | apply below_drew1 | refine below_set ?_ GE206.out) | exact HB.out)))); have n1_ := Aside0.mk (blk_below (g := gb206) (o := .cells #[.slice (some ad213) l0_0.length c0_0, .slice A0_1 l0_1.length c0_1, .int .i64 a0_2] 29 (0, 0)) (by (with_reducible repeat (first | refine blk_drewN ?_ _ | refine blk_drew ?_ | refine blk_alloc ?_ _)); exact BK206.out) hb); have n2_ := Aside0.mk (below_step (by repeat (first | (with_reducible first | exact HB.out | apply below_alloc | apply pw_below_drewN | apply below_drew1 | refine below_set ?_ GE206.out) | exact HB.out)) hb); clear BK206; clear HB; have HO216 := n0_; have BK206 := n1_; have HB := n2_; clear n0_ n1_ n2_; (try clear hb); (try clear hb2); (try clear hk); (try clear hi); (try clear ho0); obtain ⟨Ao39, co39, eo39⟩ := Kd.R_slice HO216.out; subst eo39; have p217 : 0 ≤ (t211 : Int) := of_decide_eq_true (by first | (with_reducible assumption) | assumption); have q217 : t211 < (t214.length : Int) := of_decide_eq_true (by first | (with_reducible assumption) | assumption); obtain ⟨ad217, e217, hx217_0⟩ := Kd.at_int (Kd.R_reads' HO216.out).2.2 t211 p217 q217; cases e217; replace p217 := eq_true p217; replace q217 := eq_true q217; have p33 : 0 ≤ (t211 : Int) := of_decide_eq_true (by first | (with_reducible assumption) | assumption); have q33 : (t211 : Int) < ((t214.length : Int) : Int) := of_decide_eq_true (by first | (with_reducible assumption) | assumption); obtain ⟨go33, co33, eo33, gb33, gl33, cl33, HG33⟩ := Kd.R_form HO216.out (by omega); (first | cases eo33 | (injection eo33 with ea_ en_ ec_; (first | subst ea_ | (injection ea_ with ea_; subst ea_)); subst ec_; clear en_)); have GB33 := Aside0.mk gb33; have GG33 := Aside0.mk HG33; clear gb33 gl33 HG33; (first | simp only [add_plain] at hx217_0 | skip); obtain ⟨hx33_0, hf33_0⟩ := Kd.R_celln 0 HO216.out (t211 : Int) p33 q33; replace p33 := eq_true p33; replace q33 := eq_true q33; obtain ⟨hy40_, hz40_⟩ := Kd.R_celln 0 HO216.out (t211 : Int) (of_decide_eq_true (by first | (with_reducible assumption) | assumption)) (of_decide_eq_true (by first | (with_reducible assumption) | assumption)); have HP40 := Kd.R_putg HO216.out (t211 : Int) (wrap64 ((rd t214 t211) + 1))) | ((with_reducible refine gate_store (t := 3) (p := 72) rfl ?_); (try (rw [drewN_self w38]; generalize hq_ : World.drewN w38 _ = w38; have n0_ := Aside0.mk (Kd.R_at hq_ HO216.out); have n1_ := Aside0.mk (blk_at hq_ BK206.out); have n2_ := Aside0.mk (below_at hq_ HB.out); clear hq_ HO216 BK206 HB; have HO216 := n0_; have BK206 := n1_; have HB := n2_; clear n0_ n1_ n2_; (try (obtain ⟨hy40_, hz40_⟩ := Kd.R_celln 0 HO216.out (t211 : Int) (of_decide_eq_true (by first | (with_reducible assumption) | assumption)) (of_decide_eq_true (by first | (with_reducible assumption) | assumption)))); (try (have HP40 := Kd.R_putg HO216.out (t211 : Int) (wrap64 ((rd t214 t211) + 1)))))); refine store_event (t := 3) (p := 72) (v := ?vo_w41) (w1 := (w38.setCell ⟨go33, (t211 : Int).toNat, none⟩ (.int .i64 (wrap64 ((rd t214 t211) + 1))))) ?hg ?ho ?hn ?hr ?_; (case ho => rfl); (case hg => rfl); (case hn => rfl); (case hr => first | (go_simp; done) | (go_simp; rfl)); intro w41 hw; have hg : w38.grownBy w41 (some go33) := (by rw [hw]; exact HP40.2); have hp_ : Kd.R (Kd.int .i64) 3 w41 w.heap.size (fun _ => True) (.slice (some ⟨go33, 0, none⟩) t214.length co39) y218 := (by rw [hw, Ny218.out]; exact HP40.1); clear HP40; have n0_ := Aside0.mk (blk_grown (g := gb206) (o := .cells #[.slice (some ad213) l0_0.length c0_0, .slice A0_1 l0_1.length c0_1, .int .i64 a0_2] 29 (0, 0)) (by (with_reducible repeat (first | refine blk_drewN ?_ _ | refine blk_drew ?_ | refine blk_alloc ?_ _)); exact BK206.out) hg (Kd.R_ne HO216.out BK206.out (by decide))); have n1_ := Aside0.mk (hp_); have n2_ := Aside0.mk ((by rw [hw]; exact below_set (HB.out) GB33.out : Below w.heap.size w w41)); clear BK206; clear HO216; clear HB; have BK206 := n0_; have HO216 := n1_; have HB := n2_; clear n0_ n1_ n2_; clear hg hw hp_; have hcz42_0 : w41.cell? ⟨gb206, 0, none⟩ = some (.slice (some ad213) l0_0.length c0_0) := (blk_cell BK206.out 0).trans rfl; have hcz42_1 : w41.cell? ⟨gb206, 1, none⟩ = some (.slice A0_1 l0_1.length c0_1) := (blk_cell BK206.out 1).trans rfl; have hcz42_2 : w41.cell? ⟨gb206, 2, none⟩ = some (.int .i64 a0_2) := (blk_cell BK206.out 2).trans rfl; have hfz42_0 := blk_frozen BK206.out 0; have hfz42_1 := blk_frozen BK206.out 1; have hfz42_2 := blk_frozen BK206.out 2) | (go_at_call 16; refine calls_of_args (args' := #[.agg #[.slice (some ad213) l0_0.length c0_0, .slice A0_1 l0_1.length c0_1, .int .i64 a0_2], .slice (some ⟨go33, 0, none⟩) y218.length co39]) (by first | (rw [show y218.length = t214.length from (Kd.R_reads' HO216.out).1.symm] <;> rfl) | rfl) ?_; (with_reducible refine (lots_Worth.calls kj6 _ _ l0_0 _ _ l0_1 a0_2 _ _ y218 t219 t220 _ ?side1 ?side2 ?side3 ?side4 ?side5 ?side6 ?side7 A34.out).mono ?_); (case side1 => exact GlobOK.below HG.out (by repeat (first | (with_reducible first | exact HB.out | apply below_alloc | apply pw_below_drewN | apply below_drew1 | refine below_set ?_ GE206.out) | exact HB.out))); (case side2 => repeat (first | exact (Kd.C_below HR0_0.out HB.out) | (with_reducible refine Kd.C_alloc ?_ _) | (with_reducible refine Kd.C_drewN ?_ _) | (with_reducible refine Kd.C_drew ?_))); (case side3 => exact HC0_0.out); (case side4 => repeat (first | exact (Kd.C_below HR0_1.out HB.out) | (with_reducible refine Kd.C_alloc ?_ _) | (with_reducible refine Kd.C_drewN ?_ _) | (with_reducible refine Kd.C_drew ?_))); (case side5 => exact HC0_1.out); (case side6 => repeat (first | exact (Kd.R_reads' HO216.out).2.2 | (with_reducible refine Kd.C_alloc ?_ _) | (with_reducible refine Kd.C_drewN ?_ _) | (with_reducible refine Kd.C_drew ?_))); (case side7 => rw [show y218.length = t214.length from (Kd.R_reads' HO216.out).1.symm]; exact (Kd.R_reads' HO216.out).2.1); rintro e w43 ⟨rfl, hb⟩; have n0_ := Aside0.mk (Kd.R_below (by (with_reducible repeat (first | apply Kd.R_alloc | apply Kd.R_drewN | apply Kd.R_drew)); exact HO216.out) hb); have n1_ := Aside0.mk (blk_below (g := gb206) (o := .cells #[.slice (some ad213) l0_0.length c0_0, .slice A0_1 l0_1.length c0_1, .int .i64 a0_2] 29 (0, 0)) (by (with_reducible repeat (first | refine blk_drewN ?_ _ | refine blk_drew ?_ | refine blk_alloc ?_ _)); exact BK206.out) hb); have n2_ := Aside0.mk (below_step (by repeat (first | (with_reducible first | exact HB.out | apply below_alloc | apply pw_below_drewN | apply below_drew1 | refine below_set ?_ GE206.out) | exact HB.out)) hb); clear HO216; clear BK206; clear HB; have HO216 := n0_; have BK206 := n1_; have HB := n2_; clear n0_ n1_ n2_; (try clear hb); (try clear hb2); (try clear hk); (try clear hi); have hcz44_0 : w43.cell? ⟨gb206, 0, none⟩ = some (.slice (some ad213) l0_0.length c0_0) := (blk_cell BK206.out 0).trans rfl; have hcz44_1 : w43.cell? ⟨gb206, 1, none⟩ = some (.slice A0_1 l0_1.length c0_1) := (blk_cell BK206.out 1).trans rfl; have hcz44_2 : w43.cell? ⟨gb206, 2, none⟩ = some (.int .i64 a0_2) := (blk_cell BK206.out 2).trans rfl; have hfz44_0 := blk_frozen BK206.out 0; have hfz44_1 := blk_frozen BK206.out 1; have hfz44_2 := blk_frozen BK206.out 2) | (go_at_call 17; (with_reducible refine (lots_Cost.calls kj6 _ _ l0_0 _ _ l0_1 a0_2 _ _ l1 t221 t222 _ ?side1 ?side2 ?side3 ?side4 ?side5 ?side6 ?side7 A35.out).mono ?_); (case side1 => exact GlobOK.below HG.out (by repeat (first | (with_reducible first | exact HB.out | apply below_alloc | apply pw_below_drewN | apply below_drew1 | refine below_set ?_ GE206.out) | exact HB.out))); (case side2 => repeat (first | exact (Kd.C_below HR0_0.out HB.out) | (with_reducible refine Kd.C_alloc ?_ _) | (with_reducible refine Kd.C_drewN ?_ _) | (with_reducible refine Kd.C_drew ?_))); (case side3 => exact HC0_0.out); (case side4 => repeat (first | exact (Kd.C_below HR0_1.out HB.out) | (with_reducible refine Kd.C_alloc ?_ _) | (with_reducible refine Kd.C_drewN ?_ _) | (with_reducible refine Kd.C_drew ?_))); (case side5 => exact HC0_1.out); (case side6 => repeat (first | exact (Kd.C_below HR1.out HB.out) | (with_reducible refine Kd.C_alloc ?_ _) | (with_reducible refine Kd.C_drewN ?_ _) | (with_reducible refine Kd.C_drew ?_))); (case side7 => exact HC1.out); rintro e w45 ⟨rfl, hb⟩; have n0_ := Aside0.mk (Kd.R_below (by (with_reducible repeat (first | apply Kd.R_alloc | apply Kd.R_drewN | apply Kd.R_drew)); exact HO216.out) hb); have n1_ := Aside0.mk (blk_below (g := gb206) (o := .cells #[.slice (some ad213) l0_0.length c0_0, .slice A0_1 l0_1.length c0_1, .int .i64 a0_2] 29 (0, 0)) (by (with_reducible repeat (first | refine blk_drewN ?_ _ | refine blk_drew ?_ | refine blk_alloc ?_ _)); exact BK206.out) hb); have n2_ := Aside0.mk (below_step (by repeat (first | (with_reducible first | exact HB.out | apply below_alloc | apply pw_below_drewN | apply below_drew1 | refine below_set ?_ GE206.out) | exact HB.out)) hb); clear HO216; clear BK206; clear HB; have HO216 := n0_; have BK206 := n1_; have HB := n2_; clear n0_ n1_ n2_; (try clear hb); (try clear hb2); (try clear hk); (try clear hi); have hcz46_0 : w45.cell? ⟨gb206, 0, none⟩ = some (.slice (some ad213) l0_0.length c0_0) := (blk_cell BK206.out 0).trans rfl; have hcz46_1 : w45.cell? ⟨gb206, 1, none⟩ = some (.slice A0_1 l0_1.length c0_1) := (blk_cell BK206.out 1).trans rfl; have hcz46_2 : w45.cell? ⟨gb206, 2, none⟩ = some (.int .i64 a0_2) := (blk_cell BK206.out 2).trans rfl; have hfz46_0 := blk_frozen BK206.out 0; have hfz46_1 := blk_frozen BK206.out 1; have hfz46_2 := blk_frozen BK206.out 2) | (go_at_call 17; refine calls_of_args (args' := #[.agg #[.slice (some ad213) l0_0.length c0_0, .slice A0_1 l0_1.length c0_1, .int .i64 a0_2], .slice (some ⟨go33, 0, none⟩) y218.length co39]) (by first | (rw [show y218.length = t214.length from (Kd.R_reads' HO216.out).1.symm] <;> rfl) | rfl) ?_; (with_reducible refine (lots_Cost.calls kj6 _ _ l0_0 _ _ l0_1 a0_2 _ _ y218 t223 t224 _ ?side1 ?side2 ?side3 ?side4 ?side5 ?side6 ?side7 A36.out).mono ?_); (case side1 => exact GlobOK.below HG.out (by repeat (first | (with_reducible first | exact HB.out | apply below_alloc | apply pw_below_drewN | apply below_drew1 | refine below_set ?_ GE206.out) | exact HB.out))); (case side2 => repeat (first | exact (Kd.C_below HR0_0.out HB.out) | (with_reducible refine Kd.C_alloc ?_ _) | (with_reducible refine Kd.C_drewN ?_ _) | (with_reducible refine Kd.C_drew ?_))); (case side3 => exact HC0_0.out); (case side4 => repeat (first | exact (Kd.C_below HR0_1.out HB.out) | (with_reducible refine Kd.C_alloc ?_ _) | (with_reducible refine Kd.C_drewN ?_ _) | (with_reducible refine Kd.C_drew ?_))); (case side5 => exact HC0_1.out); (case side6 => repeat (first | exact (Kd.R_reads' HO216.out).2.2 | (with_reducible refine Kd.C_alloc ?_ _) | (with_reducible refine Kd.C_drewN ?_ _) | (with_reducible refine Kd.C_drew ?_))); (case side7 => rw [show y218.length = t214.length from (Kd.R_reads' HO216.out).1.symm]; exact (Kd.R_reads' HO216.out).2.1); rintro e w47 ⟨rfl, hb⟩; have n0_ := Aside0.mk (Kd.R_below (by (with_reducible repeat (first | apply Kd.R_alloc | apply Kd.R_drewN | apply Kd.R_drew)); exact HO216.out) hb); have n1_ := Aside0.mk (blk_below (g := gb206) (o := .cells #[.slice (some ad213) l0_0.length c0_0, .slice A0_1 l0_1.length c0_1, .int .i64 a0_2] 29 (0, 0)) (by (with_reducible repeat (first | refine blk_drewN ?_ _ | refine blk_drew ?_ | refine blk_alloc ?_ _)); exact BK206.out) hb); have n2_ := Aside0.mk (below_step (by repeat (first | (with_reducible first | exact HB.out | apply below_alloc | apply pw_below_drewN | apply below_drew1 | refine below_set ?_ GE206.out) | exact HB.out)) hb); clear HO216; clear BK206; clear HB; have HO216 := n0_; have BK206 := n1_; have HB := n2_; clear n0_ n1_ n2_; (try clear hb); (try clear hb2); (try clear hk); (try clear hi); have hcz48_0 : w47.cell? ⟨gb206, 0, none⟩ = some (.slice (some ad213) l0_0.length c0_0) := (blk_cell BK206.out 0).trans rfl; have hcz48_1 : w47.cell? ⟨gb206, 1, none⟩ = some (.slice A0_1 l0_1.length c0_1) := (blk_cell BK206.out 1).trans rfl; have hcz48_2 : w47.cell? ⟨gb206, 2, none⟩ = some (.int .i64 a0_2) := (blk_cell BK206.out 2).trans rfl; have hfz48_0 := blk_frozen BK206.out 0; have hfz48_1 := blk_frozen BK206.out 1; have hfz48_2 := blk_frozen BK206.out 2) | ((with_reducible refine gate_dst (N := 17) rfl ?_); (try (refine gate_guard (by rfl) ?_; dsimp only)); refine box_event ?hg (N := 17) ?hd (cs := #[.slice none 0 0, .slice none 0 0, .int .i64 0]) (t := 29) ?hr ?_; (case hd => rfl); (case hg => rfl); (case hr => first | (go_simp; done) | (go_simp; rfl)); intro gb225 hg w49 hbox hb; have n0_ := Aside0.mk (Kd.R_below (by (with_reducible repeat (first | apply Kd.R_alloc | apply Kd.R_drewN | apply Kd.R_drew)); exact HO216.out) hb); have n1_ := Aside0.mk (blk_below (g := gb206) (o := .cells #[.slice (some ad213) l0_0.length c0_0, .slice A0_1 l0_1.length c0_1, .int .i64 a0_2] 29 (0, 0)) (by (with_reducible repeat (first | refine blk_drewN ?_ _ | refine blk_drew ?_ | refine blk_alloc ?_ _)); exact BK206.out) hb); have n2_ := Aside0.mk (below_step (by repeat (first | (with_reducible first | exact HB.out | apply below_alloc | apply pw_below_drewN | apply below_drew1 | refine below_set ?_ GE206.out) | exact HB.out)) hb); have n3_ := Aside0.mk (hbox); have n4_ := Aside0.mk ((by rw [hg]; exact (below_size (by repeat (first | (with_reducible first | exact HB.out | apply below_alloc | apply pw_below_drewN | apply below_drew1 | refine below_set ?_ GE206.out) | exact HB.out))) : w.heap.size ≤ gb225)); have n5_ := Aside0.mk ((by rw [hg]; exact (below_size (by repeat (first | (with_reducible first | exact HB.out | apply below_alloc | apply pw_below_drewN | apply below_drew1 | refine below_set ?_ GE206.out) | exact HB.out))) : w.heap.size ≤ gb225)); have n6_ := Aside0.mk ((by rw [hg]; exact Nat.ne_of_lt (blk_lt (g := gb206) (o := .cells #[.slice (some ad213) l0_0.length c0_0, .slice A0_1 l0_1.length c0_1, .int .i64 a0_2] 29 (0, 0)) (by (with_reducible repeat (first | refine blk_drewN ?_ _ | refine blk_drew ?_ | refine blk_alloc ?_ _)); exact BK206.out)) : gb206 ≠ gb225)); have n7_ := Aside0.mk ((by rw [hg]; exact Nat.ne_of_gt (blk_lt (g := gb206) (o := .cells #[.slice (some ad213) l0_0.length c0_0, .slice A0_1 l0_1.length c0_1, .int .i64 a0_2] 29 (0, 0)) (by (with_reducible repeat (first | refine blk_drewN ?_ _ | refine blk_drew ?_ | refine blk_alloc ?_ _)); exact BK206.out)) : gb225 ≠ gb206)); clear HO216; clear BK206; clear HB; have HO216 := n0_; have BK206 := n1_; have HB := n2_; have BK225 := n3_; have GW225 := n4_; have GE225 := n5_; have NB206_225 := n6_; have NB225_206 := n7_; clear n0_ n1_ n2_ n3_ n4_ n5_ n6_ n7_; clear hb hbox hg; have hnb50 := NB225_206.out; have hnc50 := NB206_225.out; have hcz51_0 : w49.cell? ⟨gb225, 0, none⟩ = some (.slice none 0 0) := (blk_cell BK225.out 0).trans rfl; have hcz51_1 : w49.cell? ⟨gb225, 1, none⟩ = some (.slice none 0 0) := (blk_cell BK225.out 1).trans rfl; have hcz51_2 : w49.cell? ⟨gb225, 2, none⟩ = some (.int .i64 0) := (blk_cell BK225.out 2).trans rfl; have hfz51_0 := blk_frozen BK225.out 0; have hfz51_1 := blk_frozen BK225.out 1; have hfz51_2 := blk_frozen BK225.out 2))
          repeat (go_quiet (first | (go_at_call 9; (try simp only [i64_w, i32_w]); (with_reducible refine (pledgeworld_Number.calls a2 (l1.length : Int) t211 _ A25.out).mono ?_); rintro e w' ⟨rfl, ⟨nd, rfl⟩⟩; (try first | exact ⟨rfl, _, World.drewN_drewN _ _ _⟩ | exact ⟨rfl, _, Eq.trans (World.drewN_drewN _ _ _) (congrArg (World.drewN _) (Nat.add_assoc _ _ _))⟩); have p212 : 0 ≤ (t211 : Int) := of_decide_eq_true (by first | (with_reducible assumption) | assumption); have q212 : t211 < (l1.length : Int) := of_decide_eq_true (by first | (with_reducible assumption) | assumption); obtain ⟨ad212, e212, hx212_0⟩ := Kd.at_int HR1.out t211 p212 q212; cases e212; replace hx212_0 := (HB.out.cell (World.block_lt_of_cell? w _ hx212_0)).trans hx212_0; replace p212 := eq_true p212; replace q212 := eq_true q212; have hcz37_0 : wc.cell? ⟨gb206, 0, none⟩ = some (.slice A0_0 l0_0.length c0_0) := (blk_cell BK206.out 0).trans rfl; have hcz37_1 : wc.cell? ⟨gb206, 1, none⟩ = some (.slice A0_1 l0_1.length c0_1) := (blk_cell BK206.out 1).trans rfl; have hcz37_2 : wc.cell? ⟨gb206, 2, none⟩ = some (.int .i64 a0_2) := (blk_cell BK206.out 2).trans rfl; have hfz37_0 := blk_frozen BK206.out 0; have hfz37_1 := blk_frozen BK206.out 1; have hfz37_2 := blk_frozen BK206.out 2; have p213 : 0 ≤ (t211 : Int) := of_decide_eq_true (by first | (with_reducible assumption) | assumption); have q213 : t211 < (l0_0.length : Int) := of_decide_eq_true (by first | (with_reducible assumption) | assumption); obtain ⟨ad213, e213, hx213_0, hx213_1, hx213_2, hx213_3⟩ := at_T25 HR0_0.out t211 p213 q213; cases e213; replace hx213_0 := (HB.out.cell (World.block_lt_of_cell? w _ hx213_0)).trans hx213_0; replace hx213_1 := (HB.out.cell (World.block_lt_of_cell? w _ hx213_1)).trans hx213_1; replace hx213_2 := (HB.out.cell (World.block_lt_of_cell? w _ hx213_2)).trans hx213_2; replace hx213_3 := (HB.out.cell (World.block_lt_of_cell? w _ hx213_3)).trans hx213_3; replace p213 := eq_true p213; replace q213 := eq_true q213) | (go_at_call 15; (try simp only [i64_w, i32_w]); (with_reducible refine (pledgeref_Ints.calls kj6 _ _ l1 t214 _ ?side1 ?side2 A31.out).mono ?_); (case side1 => repeat (first | exact (Kd.C_below HR1.out (by repeat (first | (with_reducible first | exact HB.out | apply below_alloc | apply pw_below_drewN | apply below_drew1 | refine below_set ?_ GE206.out) | exact HB.out))) | (with_reducible refine Kd.C_alloc ?_ _) | (with_reducible refine Kd.C_drewN ?_ _) | (with_reducible refine Kd.C_drew ?_))); (case side2 => exact HC1.out); rintro e w38 ⟨v215, rfl, ho0, hb⟩; have n0_ := Aside0.mk (Kd.R_lower ho0 (below_size (by repeat (first | (with_reducible first | exact HB.out | apply below_alloc | apply pw_below_drewN | apply below_drew1 | refine below_set ?_ GE206.out) | exact HB.out)))); have n1_ := Aside0.mk (blk_below (g := gb206) (o := .cells #[.slice (some ad213) l0_0.length c0_0, .slice A0_1 l0_1.length c0_1, .int .i64 a0_2] 29 (0, 0)) (by (with_reducible repeat (first | refine blk_drewN ?_ _ | refine blk_drew ?_ | refine blk_alloc ?_ _)); exact BK206.out) hb); have n2_ := Aside0.mk (below_step (by repeat (first | (with_reducible first | exact HB.out | apply below_alloc | apply pw_below_drewN | apply below_drew1 | refine below_set ?_ GE206.out) | exact HB.out)) hb); clear BK206; clear HB; have HO216 := n0_; have BK206 := n1_; have HB := n2_; clear n0_ n1_ n2_; (try clear hb); (try clear hb2); (try clear hk); (try clear hi); (try clear ho0); obtain ⟨Ao39, co39, eo39⟩ := Kd.R_slice HO216.out; subst eo39; have p217 : 0 ≤ (t211 : Int) := of_decide_eq_true (by first | (with_reducible assumption) | assumption); have q217 : t211 < (t214.length : Int) := of_decide_eq_true (by first | (with_reducible assumption) | assumption); obtain ⟨ad217, e217, hx217_0⟩ := Kd.at_int (Kd.R_reads' HO216.out).2.2 t211 p217 q217; cases e217; replace p217 := eq_true p217; replace q217 := eq_true q217; have p33 : 0 ≤ (t211 : Int) := of_decide_eq_true (by first | (with_reducible assumption) | assumption); have q33 : (t211 : Int) < ((t214.length : Int) : Int) := of_decide_eq_true (by first | (with_reducible assumption) | assumption); obtain ⟨go33, co33, eo33, gb33, gl33, cl33, HG33⟩ := Kd.R_form HO216.out (by omega); (first | cases eo33 | (injection eo33 with ea_ en_ ec_; (first | subst ea_ | (injection ea_ with ea_; subst ea_)); subst ec_; clear en_)); have GB33 := Aside0.mk gb33; have GG33 := Aside0.mk HG33; clear gb33 gl33 HG33; (first | simp only [add_plain] at hx217_0 | skip); obtain ⟨hx33_0, hf33_0⟩ := Kd.R_celln 0 HO216.out (t211 : Int) p33 q33; replace p33 := eq_true p33; replace q33 := eq_true q33; obtain ⟨hy40_, hz40_⟩ := Kd.R_celln 0 HO216.out (t211 : Int) (of_decide_eq_true (by first | (with_reducible assumption) | assumption)) (of_decide_eq_true (by first | (with_reducible assumption) | assumption)); have HP40 := Kd.R_putg HO216.out (t211 : Int) (wrap64 ((rd t214 t211) + 1))) | ((with_reducible refine gate_store (t := 3) (p := 72) rfl ?_); (try (rw [drewN_self w38]; generalize hq_ : World.drewN w38 _ = w38; have n0_ := Aside0.mk (Kd.R_at hq_ HO216.out); have n1_ := Aside0.mk (blk_at hq_ BK206.out); have n2_ := Aside0.mk (below_at hq_ HB.out); clear hq_ HO216 BK206 HB; have HO216 := n0_; have BK206 := n1_; have HB := n2_; clear n0_ n1_ n2_; (try (obtain ⟨hy40_, hz40_⟩ := Kd.R_celln 0 HO216.out (t211 : Int) (of_decide_eq_true (by first | (with_reducible assumption) | assumption)) (of_decide_eq_true (by first | (with_reducible assumption) | assumption)))); (try (have HP40 := Kd.R_putg HO216.out (t211 : Int) (wrap64 ((rd t214 t211) + 1)))))); refine store_event (t := 3) (p := 72) (v := ?vo_w41) (w1 := (w38.setCell ⟨go33, (t211 : Int).toNat, none⟩ (.int .i64 (wrap64 ((rd t214 t211) + 1))))) ?hg ?ho ?hn ?hr ?_; (case ho => rfl); (case hg => rfl); (case hn => rfl); (case hr => first | (go_simp; done) | (go_simp; rfl)); intro w41 hw; have hg : w38.grownBy w41 (some go33) := (by rw [hw]; exact HP40.2); have hp_ : Kd.R (Kd.int .i64) 3 w41 w.heap.size (fun _ => True) (.slice (some ⟨go33, 0, none⟩) t214.length co39) y218 := (by rw [hw, Ny218.out]; exact HP40.1); clear HP40; have n0_ := Aside0.mk (blk_grown (g := gb206) (o := .cells #[.slice (some ad213) l0_0.length c0_0, .slice A0_1 l0_1.length c0_1, .int .i64 a0_2] 29 (0, 0)) (by (with_reducible repeat (first | refine blk_drewN ?_ _ | refine blk_drew ?_ | refine blk_alloc ?_ _)); exact BK206.out) hg (Kd.R_ne HO216.out BK206.out (by decide))); have n1_ := Aside0.mk (hp_); have n2_ := Aside0.mk ((by rw [hw]; exact below_set (HB.out) GB33.out : Below w.heap.size w w41)); clear BK206; clear HO216; clear HB; have BK206 := n0_; have HO216 := n1_; have HB := n2_; clear n0_ n1_ n2_; clear hg hw hp_; have hcz42_0 : w41.cell? ⟨gb206, 0, none⟩ = some (.slice (some ad213) l0_0.length c0_0) := (blk_cell BK206.out 0).trans rfl; have hcz42_1 : w41.cell? ⟨gb206, 1, none⟩ = some (.slice A0_1 l0_1.length c0_1) := (blk_cell BK206.out 1).trans rfl; have hcz42_2 : w41.cell? ⟨gb206, 2, none⟩ = some (.int .i64 a0_2) := (blk_cell BK206.out 2).trans rfl; have hfz42_0 := blk_frozen BK206.out 0; have hfz42_1 := blk_frozen BK206.out 1; have hfz42_2 := blk_frozen BK206.out 2) | (go_at_call 16; refine calls_of_args (args' := #[.agg #[.slice (some ad213) l0_0.length c0_0, .slice A0_1 l0_1.length c0_1, .int .i64 a0_2], .slice (some ⟨go33, 0, none⟩) y218.length co39]) (by first | (rw [show y218.length = t214.length from (Kd.R_reads' HO216.out).1.symm] <;> rfl) | rfl) ?_; (with_reducible refine (lots_Worth.calls kj6 _ _ l0_0 _ _ l0_1 a0_2 _ _ y218 t219 t220 _ ?side1 ?side2 ?side3 ?side4 ?side5 ?side6 ?side7 A34.out).mono ?_); (case side1 => exact GlobOK.below HG.out (by repeat (first | (with_reducible first | exact HB.out | apply below_alloc | apply pw_below_drewN | apply below_drew1 | refine below_set ?_ GE206.out) | exact HB.out))); (case side2 => repeat (first | exact (Kd.C_below HR0_0.out HB.out) | (with_reducible refine Kd.C_alloc ?_ _) | (with_reducible refine Kd.C_drewN ?_ _) | (with_reducible refine Kd.C_drew ?_))); (case side3 => exact HC0_0.out); (case side4 => repeat (first | exact (Kd.C_below HR0_1.out HB.out) | (with_reducible refine Kd.C_alloc ?_ _) | (with_reducible refine Kd.C_drewN ?_ _) | (with_reducible refine Kd.C_drew ?_))); (case side5 => exact HC0_1.out); (case side6 => repeat (first | exact (Kd.R_reads' HO216.out).2.2 | (with_reducible refine Kd.C_alloc ?_ _) | (with_reducible refine Kd.C_drewN ?_ _) | (with_reducible refine Kd.C_drew ?_))); (case side7 => rw [show y218.length = t214.length from (Kd.R_reads' HO216.out).1.symm]; exact (Kd.R_reads' HO216.out).2.1); rintro e w43 ⟨rfl, hb⟩; have n0_ := Aside0.mk (Kd.R_below (by (with_reducible repeat (first | apply Kd.R_alloc | apply Kd.R_drewN | apply Kd.R_drew)); exact HO216.out) hb); have n1_ := Aside0.mk (blk_below (g := gb206) (o := .cells #[.slice (some ad213) l0_0.length c0_0, .slice A0_1 l0_1.length c0_1, .int .i64 a0_2] 29 (0, 0)) (by (with_reducible repeat (first | refine blk_drewN ?_ _ | refine blk_drew ?_ | refine blk_alloc ?_ _)); exact BK206.out) hb); have n2_ := Aside0.mk (below_step (by repeat (first | (with_reducible first | exact HB.out | apply below_alloc | apply pw_below_drewN | apply below_drew1 | refine below_set ?_ GE206.out) | exact HB.out)) hb); clear HO216; clear BK206; clear HB; have HO216 := n0_; have BK206 := n1_; have HB := n2_; clear n0_ n1_ n2_; (try clear hb); (try clear hb2); (try clear hk); (try clear hi); have hcz44_0 : w43.cell? ⟨gb206, 0, none⟩ = some (.slice (some ad213) l0_0.length c0_0) := (blk_cell BK206.out 0).trans rfl; have hcz44_1 : w43.cell? ⟨gb206, 1, none⟩ = some (.slice A0_1 l0_1.length c0_1) := (blk_cell BK206.out 1).trans rfl; have hcz44_2 : w43.cell? ⟨gb206, 2, none⟩ = some (.int .i64 a0_2) := (blk_cell BK206.out 2).trans rfl; have hfz44_0 := blk_frozen BK206.out 0; have hfz44_1 := blk_frozen BK206.out 1; have hfz44_2 := blk_frozen BK206.out 2) | (go_at_call 17; (try simp only [i64_w, i32_w]); (with_reducible refine (lots_Cost.calls kj6 _ _ l0_0 _ _ l0_1 a0_2 _ _ l1 t221 t222 _ ?side1 ?side2 ?side3 ?side4 ?side5 ?side6 ?side7 A35.out).mono ?_); (case side1 => exact GlobOK.below HG.out (by repeat (first | (with_reducible first | exact HB.out | apply below_alloc | apply pw_below_drewN | apply below_drew1 | refine below_set ?_ GE206.out) | exact HB.out))); (case side2 => repeat (first | exact (Kd.C_below HR0_0.out HB.out) | (with_reducible refine Kd.C_alloc ?_ _) | (with_reducible refine Kd.C_drewN ?_ _) | (with_reducible refine Kd.C_drew ?_))); (case side3 => exact HC0_0.out); (case side4 => repeat (first | exact (Kd.C_below HR0_1.out HB.out) | (with_reducible refine Kd.C_alloc ?_ _) | (with_reducible refine Kd.C_drewN ?_ _) | (with_reducible refine Kd.C_drew ?_))); (case side5 => exact HC0_1.out); (case side6 => repeat (first | exact (Kd.C_below HR1.out HB.out) | (with_reducible refine Kd.C_alloc ?_ _) | (with_reducible refine Kd.C_drewN ?_ _) | (with_reducible refine Kd.C_drew ?_))); (case side7 => exact HC1.out); rintro e w45 ⟨rfl, hb⟩; have n0_ := Aside0.mk (Kd.R_below (by (with_reducible repeat (first | apply Kd.R_alloc | apply Kd.R_drewN | apply Kd.R_drew)); exact HO216.out) hb); have n1_ := Aside0.mk (blk_below (g := gb206) (o := .cells #[.slice (some ad213) l0_0.length c0_0, .slice A0_1 l0_1.length c0_1, .int .i64 a0_2] 29 (0, 0)) (by (with_reducible repeat (first | refine blk_drewN ?_ _ | refine blk_drew ?_ | refine blk_alloc ?_ _)); exact BK206.out) hb); have n2_ := Aside0.mk (below_step (by repeat (first | (with_reducible first | exact HB.out | apply below_alloc | apply pw_below_drewN | apply below_drew1 | refine below_set ?_ GE206.out) | exact HB.out)) hb); clear HO216; clear BK206; clear HB; have HO216 := n0_; have BK206 := n1_; have HB := n2_; clear n0_ n1_ n2_; (try clear hb); (try clear hb2); (try clear hk); (try clear hi); have hcz46_0 : w45.cell? ⟨gb206, 0, none⟩ = some (.slice (some ad213) l0_0.length c0_0) := (blk_cell BK206.out 0).trans rfl; have hcz46_1 : w45.cell? ⟨gb206, 1, none⟩ = some (.slice A0_1 l0_1.length c0_1) := (blk_cell BK206.out 1).trans rfl; have hcz46_2 : w45.cell? ⟨gb206, 2, none⟩ = some (.int .i64 a0_2) := (blk_cell BK206.out 2).trans rfl; have hfz46_0 := blk_frozen BK206.out 0; have hfz46_1 := blk_frozen BK206.out 1; have hfz46_2 := blk_frozen BK206.out 2) | (go_at_call 17; refine calls_of_args (args' := #[.agg #[.slice (some ad213) l0_0.length c0_0, .slice A0_1 l0_1.length c0_1, .int .i64 a0_2], .slice (some ⟨go33, 0, none⟩) y218.length co39]) (by first | (rw [show y218.length = t214.length from (Kd.R_reads' HO216.out).1.symm] <;> rfl) | rfl) ?_; (with_reducible refine (lots_Cost.calls kj6 _ _ l0_0 _ _ l0_1 a0_2 _ _ y218 t223 t224 _ ?side1 ?side2 ?side3 ?side4 ?side5 ?side6 ?side7 A36.out).mono ?_); (case side1 => exact GlobOK.below HG.out (by repeat (first | (with_reducible first | exact HB.out | apply below_alloc | apply pw_below_drewN | apply below_drew1 | refine below_set ?_ GE206.out) | exact HB.out))); (case side2 => repeat (first | exact (Kd.C_below HR0_0.out HB.out) | (with_reducible refine Kd.C_alloc ?_ _) | (with_reducible refine Kd.C_drewN ?_ _) | (with_reducible refine Kd.C_drew ?_))); (case side3 => exact HC0_0.out); (case side4 => repeat (first | exact (Kd.C_below HR0_1.out HB.out) | (with_reducible refine Kd.C_alloc ?_ _) | (with_reducible refine Kd.C_drewN ?_ _) | (with_reducible refine Kd.C_drew ?_))); (case side5 => exact HC0_1.out); (case side6 => repeat (first | exact (Kd.R_reads' HO216.out).2.2 | (with_reducible refine Kd.C_alloc ?_ _) | (with_reducible refine Kd.C_drewN ?_ _) | (with_reducible refine Kd.C_drew ?_))); (case side7 => rw [show y218.length = t214.length from (Kd.R_reads' HO216.out).1.symm]; exact (Kd.R_reads' HO216.out).2.1); rintro e w47 ⟨rfl, hb⟩; have n0_ := Aside0.mk (Kd.R_below (by (with_reducible repeat (first | apply Kd.R_alloc | apply Kd.R_drewN | apply Kd.R_drew)); exact HO216.out) hb); have n1_ := Aside0.mk (blk_below (g := gb206) (o := .cells #[.slice (some ad213) l0_0.length c0_0, .slice A0_1 l0_1.length c0_1, .int .i64 a0_2] 29 (0, 0)) (by (with_reducible repeat (first | refine blk_drewN ?_ _ | refine blk_drew ?_ | refine blk_alloc ?_ _)); exact BK206.out) hb); have n2_ := Aside0.mk (below_step (by repeat (first | (with_reducible first | exact HB.out | apply below_alloc | apply pw_below_drewN | apply below_drew1 | refine below_set ?_ GE206.out) | exact HB.out)) hb); clear HO216; clear BK206; clear HB; have HO216 := n0_; have BK206 := n1_; have HB := n2_; clear n0_ n1_ n2_; (try clear hb); (try clear hb2); (try clear hk); (try clear hi); have hcz48_0 : w47.cell? ⟨gb206, 0, none⟩ = some (.slice (some ad213) l0_0.length c0_0) := (blk_cell BK206.out 0).trans rfl; have hcz48_1 : w47.cell? ⟨gb206, 1, none⟩ = some (.slice A0_1 l0_1.length c0_1) := (blk_cell BK206.out 1).trans rfl; have hcz48_2 : w47.cell? ⟨gb206, 2, none⟩ = some (.int .i64 a0_2) := (blk_cell BK206.out 2).trans rfl; have hfz48_0 := blk_frozen BK206.out 0; have hfz48_1 := blk_frozen BK206.out 1; have hfz48_2 := blk_frozen BK206.out 2) | ((with_reducible refine gate_dst (N := 17) rfl ?_); (try (refine gate_guard (by rfl) ?_; dsimp only)); refine box_event ?hg (N := 17) ?hd (cs := #[.slice none 0 0, .slice none 0 0, .int .i64 0]) (t := 29) ?hr ?_; (case hd => rfl); (case hg => rfl); (case hr => first | (go_simp; done) | (go_simp; rfl)); intro gb225 hg w49 hbox hb; have n0_ := Aside0.mk (Kd.R_below (by (with_reducible repeat (first | apply Kd.R_alloc | apply Kd.R_drewN | apply Kd.R_drew)); exact HO216.out) hb); have n1_ := Aside0.mk (blk_below (g := gb206) (o := .cells #[.slice (some ad213) l0_0.length c0_0, .slice A0_1 l0_1.length c0_1, .int .i64 a0_2] 29 (0, 0)) (by (with_reducible repeat (first | refine blk_drewN ?_ _ | refine blk_drew ?_ | refine blk_alloc ?_ _)); exact BK206.out) hb); have n2_ := Aside0.mk (below_step (by repeat (first | (with_reducible first | exact HB.out | apply below_alloc | apply pw_below_drewN | apply below_drew1 | refine below_set ?_ GE206.out) | exact HB.out)) hb); have n3_ := Aside0.mk (hbox); have n4_ := Aside0.mk ((by rw [hg]; exact (below_size (by repeat (first | (with_reducible first | exact HB.out | apply below_alloc | apply pw_below_drewN | apply below_drew1 | refine below_set ?_ GE206.out) | exact HB.out))) : w.heap.size ≤ gb225)); have n5_ := Aside0.mk ((by rw [hg]; exact (below_size (by repeat (first | (with_reducible first | exact HB.out | apply below_alloc | apply pw_below_drewN | apply below_drew1 | refine below_set ?_ GE206.out) | exact HB.out))) : w.heap.size ≤ gb225)); have n6_ := Aside0.mk ((by rw [hg]; exact Nat.ne_of_lt (blk_lt (g := gb206) (o := .cells #[.slice (some ad213) l0_0.length c0_0, .slice A0_1 l0_1.length c0_1, .int .i64 a0_2] 29 (0, 0)) (by (with_reducible repeat (first | refine blk_drewN ?_ _ | refine blk_drew ?_ | refine blk_alloc ?_ _)); exact BK206.out)) : gb206 ≠ gb225)); have n7_ := Aside0.mk ((by rw [hg]; exact Nat.ne_of_gt (blk_lt (g := gb206) (o := .cells #[.slice (some ad213) l0_0.length c0_0, .slice A0_1 l0_1.length c0_1, .int .i64 a0_2] 29 (0, 0)) (by (with_reducible repeat (first | refine blk_drewN ?_ _ | refine blk_drew ?_ | refine blk_alloc ?_ _)); exact BK206.out)) : gb225 ≠ gb206)); clear HO216; clear BK206; clear HB; have HO216 := n0_; have BK206 := n1_; have HB := n2_; have BK225 := n3_; have GW225 := n4_; have GE225 := n5_; have NB206_225 := n6_; have NB225_206 := n7_; clear n0_ n1_ n2_ n3_ n4_ n5_ n6_ n7_; clear hb hbox hg; have hnb50 := NB225_206.out; have hnc50 := NB206_225.out; have hcz51_0 : w49.cell? ⟨gb225, 0, none⟩ = some (.slice none 0 0) := (blk_cell BK225.out 0).trans rfl; have hcz51_1 : w49.cell? ⟨gb225, 1, none⟩ = some (.slice none 0 0) := (blk_cell BK225.out 1).trans rfl; have hcz51_2 : w49.cell? ⟨gb225, 2, none⟩ = some (.int .i64 0) := (blk_cell BK225.out 2).trans rfl; have hfz51_0 := blk_frozen BK225.out 0; have hfz51_1 := blk_frozen BK225.out 1; have hfz51_2 := blk_frozen BK225.out 2)); try go_wp2_with (first | (go_at_call 9; (try simp only [i64_w, i32_w]); (with_reducible refine (pledgeworld_Number.calls a2 (l1.length : Int) t211 _ A25.out).mono ?_); rintro e w' ⟨rfl, ⟨nd, rfl⟩⟩; (try first | exact ⟨rfl, _, World.drewN_drewN _ _ _⟩ | exact ⟨rfl, _, Eq.trans (World.drewN_drewN _ _ _) (congrArg (World.drewN _) (Nat.add_assoc _ _ _))⟩); have p212 : 0 ≤ (t211 : Int) := of_decide_eq_true (by first | (with_reducible assumption) | assumption); have q212 : t211 < (l1.length : Int) := of_decide_eq_true (by first | (with_reducible assumption) | assumption); obtain ⟨ad212, e212, hx212_0⟩ := Kd.at_int HR1.out t211 p212 q212; cases e212; replace hx212_0 := (HB.out.cell (World.block_lt_of_cell? w _ hx212_0)).trans hx212_0; replace p212 := eq_true p212; replace q212 := eq_true q212; have hcz37_0 : wc.cell? ⟨gb206, 0, none⟩ = some (.slice A0_0 l0_0.length c0_0) := (blk_cell BK206.out 0).trans rfl; have hcz37_1 : wc.cell? ⟨gb206, 1, none⟩ = some (.slice A0_1 l0_1.length c0_1) := (blk_cell BK206.out 1).trans rfl; have hcz37_2 : wc.cell? ⟨gb206, 2, none⟩ = some (.int .i64 a0_2) := (blk_cell BK206.out 2).trans rfl; have hfz37_0 := blk_frozen BK206.out 0; have hfz37_1 := blk_frozen BK206.out 1; have hfz37_2 := blk_frozen BK206.out 2; have p213 : 0 ≤ (t211 : Int) := of_decide_eq_true (by first | (with_reducible assumption) | assumption); have q213 : t211 < (l0_0.length : Int) := of_decide_eq_true (by first | (with_reducible assumption) | assumption); obtain ⟨ad213, e213, hx213_0, hx213_1, hx213_2, hx213_3⟩ := at_T25 HR0_0.out t211 p213 q213; cases e213; replace hx213_0 := (HB.out.cell (World.block_lt_of_cell? w _ hx213_0)).trans hx213_0; replace hx213_1 := (HB.out.cell (World.block_lt_of_cell? w _ hx213_1)).trans hx213_1; replace hx213_2 := (HB.out.cell (World.block_lt_of_cell? w _ hx213_2)).trans hx213_2; replace hx213_3 := (HB.out.cell (World.block_lt_of_cell? w _ hx213_3)).trans hx213_3; replace p213 := eq_true p213; replace q213 := eq_true q213) | (go_at_call 15; (try simp only [i64_w, i32_w]); (with_reducible refine (pledgeref_Ints.calls kj6 _ _ l1 t214 _ ?side1 ?side2 A31.out).mono ?_); (case side1 => repeat (first | exact (Kd.C_below HR1.out (by repeat (first | (with_reducible first | exact HB.out | apply below_alloc | apply pw_below_drewN | apply below_drew1 | refine below_set ?_ GE206.out) | exact HB.out))) | (with_reducible refine Kd.C_alloc ?_ _) | (with_reducible refine Kd.C_drewN ?_ _) | (with_reducible refine Kd.C_drew ?_))); (case side2 => exact HC1.out); rintro e w38 ⟨v215, rfl, ho0, hb⟩; have n0_ := Aside0.mk (Kd.R_lower ho0 (below_size (by repeat (first | (with_reducible first | exact HB.out | apply below_alloc | apply pw_below_drewN | apply below_drew1 | refine below_set ?_ GE206.out) | exact HB.out)))); have n1_ := Aside0.mk (blk_below (g := gb206) (o := .cells #[.slice (some ad213) l0_0.length c0_0, .slice A0_1 l0_1.length c0_1, .int .i64 a0_2] 29 (0, 0)) (by (with_reducible repeat (first | refine blk_drewN ?_ _ | refine blk_drew ?_ | refine blk_alloc ?_ _)); exact BK206.out) hb); have n2_ := Aside0.mk (below_step (by repeat (first | (with_reducible first | exact HB.out | apply below_alloc | apply pw_below_drewN | apply below_drew1 | refine below_set ?_ GE206.out) | exact HB.out)) hb); clear BK206; clear HB; have HO216 := n0_; have BK206 := n1_; have HB := n2_; clear n0_ n1_ n2_; (try clear hb); (try clear hb2); (try clear hk); (try clear hi); (try clear ho0); obtain ⟨Ao39, co39, eo39⟩ := Kd.R_slice HO216.out; subst eo39; have p217 : 0 ≤ (t211 : Int) := of_decide_eq_true (by first | (with_reducible assumption) | assumption); have q217 : t211 < (t214.length : Int) := of_decide_eq_true (by first | (with_reducible assumption) | assumption); obtain ⟨ad217, e217, hx217_0⟩ := Kd.at_int (Kd.R_reads' HO216.out).2.2 t211 p217 q217; cases e217; replace p217 := eq_true p217; replace q217 := eq_true q217; have p33 : 0 ≤ (t211 : Int) := of_decide_eq_true (by first | (with_reducible assumption) | assumption); have q33 : (t211 : Int) < ((t214.length : Int) : Int) := of_decide_eq_true (by first | (with_reducible assumption) | assumption); obtain ⟨go33, co33, eo33, gb33, gl33, cl33, HG33⟩ := Kd.R_form HO216.out (by omega); (first | cases eo33 | (injection eo33 with ea_ en_ ec_; (first | subst ea_ | (injection ea_ with ea_; subst ea_)); subst ec_; clear en_)); have GB33 := Aside0.mk gb33; have GG33 := Aside0.mk HG33; clear gb33 gl33 HG33; (first | simp only [add_plain] at hx217_0 | skip); obtain ⟨hx33_0, hf33_0⟩ := Kd.R_celln 0 HO216.out (t211 : Int) p33 q33; replace p33 := eq_true p33; replace q33 := eq_true q33; obtain ⟨hy40_, hz40_⟩ := Kd.R_celln 0 HO216.out (t211 : Int) (of_decide_eq_true (by first | (with_reducible assumption) | assumption)) (of_decide_eq_true (by first | (with_reducible assumption) | assumption)); have HP40 := Kd.R_putg HO216.out (t211 : Int) (wrap64 ((rd t214 t211) + 1))) | ((with_reducible refine gate_store (t := 3) (p := 72) rfl ?_); (try (rw [drewN_self w38]; generalize hq_ : World.drewN w38 _ = w38; have n0_ := Aside0.mk (Kd.R_at hq_ HO216.out); have n1_ := Aside0.mk (blk_at hq_ BK206.out); have n2_ := Aside0.mk (below_at hq_ HB.out); clear hq_ HO216 BK206 HB; have HO216 := n0_; have BK206 := n1_; have HB := n2_; clear n0_ n1_ n2_; (try (obtain ⟨hy40_, hz40_⟩ := Kd.R_celln 0 HO216.out (t211 : Int) (of_decide_eq_true (by first | (with_reducible assumption) | assumption)) (of_decide_eq_true (by first | (with_reducible assumption) | assumption)))); (try (have HP40 := Kd.R_putg HO216.out (t211 : Int) (wrap64 ((rd t214 t211) + 1)))))); refine store_event (t := 3) (p := 72) (v := ?vo_w41) (w1 := (w38.setCell ⟨go33, (t211 : Int).toNat, none⟩ (.int .i64 (wrap64 ((rd t214 t211) + 1))))) ?hg ?ho ?hn ?hr ?_; (case ho => rfl); (case hg => rfl); (case hn => rfl); (case hr => first | (go_simp; done) | (go_simp; rfl)); intro w41 hw; have hg : w38.grownBy w41 (some go33) := (by rw [hw]; exact HP40.2); have hp_ : Kd.R (Kd.int .i64) 3 w41 w.heap.size (fun _ => True) (.slice (some ⟨go33, 0, none⟩) t214.length co39) y218 := (by rw [hw, Ny218.out]; exact HP40.1); clear HP40; have n0_ := Aside0.mk (blk_grown (g := gb206) (o := .cells #[.slice (some ad213) l0_0.length c0_0, .slice A0_1 l0_1.length c0_1, .int .i64 a0_2] 29 (0, 0)) (by (with_reducible repeat (first | refine blk_drewN ?_ _ | refine blk_drew ?_ | refine blk_alloc ?_ _)); exact BK206.out) hg (Kd.R_ne HO216.out BK206.out (by decide))); have n1_ := Aside0.mk (hp_); have n2_ := Aside0.mk ((by rw [hw]; exact below_set (HB.out) GB33.out : Below w.heap.size w w41)); clear BK206; clear HO216; clear HB; have BK206 := n0_; have HO216 := n1_; have HB := n2_; clear n0_ n1_ n2_; clear hg hw hp_; have hcz42_0 : w41.cell? ⟨gb206, 0, none⟩ = some (.slice (some ad213) l0_0.length c0_0) := (blk_cell BK206.out 0).trans rfl; have hcz42_1 : w41.cell? ⟨gb206, 1, none⟩ = some (.slice A0_1 l0_1.length c0_1) := (blk_cell BK206.out 1).trans rfl; have hcz42_2 : w41.cell? ⟨gb206, 2, none⟩ = some (.int .i64 a0_2) := (blk_cell BK206.out 2).trans rfl; have hfz42_0 := blk_frozen BK206.out 0; have hfz42_1 := blk_frozen BK206.out 1; have hfz42_2 := blk_frozen BK206.out 2) | (go_at_call 16; refine calls_of_args (args' := #[.agg #[.slice (some ad213) l0_0.length c0_0, .slice A0_1 l0_1.length c0_1, .int .i64 a0_2], .slice (some ⟨go33, 0, none⟩) y218.length co39]) (by first | (rw [show y218.length = t214.length from (Kd.R_reads' HO216.out).1.symm] <;> rfl) | rfl) ?_; (with_reducible refine (lots_Worth.calls kj6 _ _ l0_0 _ _ l0_1 a0_2 _ _ y218 t219 t220 _ ?side1 ?side2 ?side3 ?side4 ?side5 ?side6 ?side7 A34.out).mono ?_); (case side1 => exact GlobOK.below HG.out (by repeat (first | (with_reducible first | exact HB.out | apply below_alloc | apply pw_below_drewN | apply below_drew1 | refine below_set ?_ GE206.out) | exact HB.out))); (case side2 => repeat (first | exact (Kd.C_below HR0_0.out HB.out) | (with_reducible refine Kd.C_alloc ?_ _) | (with_reducible refine Kd.C_drewN ?_ _) | (with_reducible refine Kd.C_drew ?_))); (case side3 => exact HC0_0.out); (case side4 => repeat (first | exact (Kd.C_below HR0_1.out HB.out) | (with_reducible refine Kd.C_alloc ?_ _) | (with_reducible refine Kd.C_drewN ?_ _) | (with_reducible refine Kd.C_drew ?_))); (case side5 => exact HC0_1.out); (case side6 => repeat (first | exact (Kd.R_reads' HO216.out).2.2 | (with_reducible refine Kd.C_alloc ?_ _) | (with_reducible refine Kd.C_drewN ?_ _) | (with_reducible refine Kd.C_drew ?_))); (case side7 => rw [show y218.length = t214.length from (Kd.R_reads' HO216.out).1.symm]; exact (Kd.R_reads' HO216.out).2.1); rintro e w43 ⟨rfl, hb⟩; have n0_ := Aside0.mk (Kd.R_below (by (with_reducible repeat (first | apply Kd.R_alloc | apply Kd.R_drewN | apply Kd.R_drew)); exact HO216.out) hb); have n1_ := Aside0.mk (blk_below (g := gb206) (o := .cells #[.slice (some ad213) l0_0.length c0_0, .slice A0_1 l0_1.length c0_1, .int .i64 a0_2] 29 (0, 0)) (by (with_reducible repeat (first | refine blk_drewN ?_ _ | refine blk_drew ?_ | refine blk_alloc ?_ _)); exact BK206.out) hb); have n2_ := Aside0.mk (below_step (by repeat (first | (with_reducible first | exact HB.out | apply below_alloc | apply pw_below_drewN | apply below_drew1 | refine below_set ?_ GE206.out) | exact HB.out)) hb); clear HO216; clear BK206; clear HB; have HO216 := n0_; have BK206 := n1_; have HB := n2_; clear n0_ n1_ n2_; (try clear hb); (try clear hb2); (try clear hk); (try clear hi); have hcz44_0 : w43.cell? ⟨gb206, 0, none⟩ = some (.slice (some ad213) l0_0.length c0_0) := (blk_cell BK206.out 0).trans rfl; have hcz44_1 : w43.cell? ⟨gb206, 1, none⟩ = some (.slice A0_1 l0_1.length c0_1) := (blk_cell BK206.out 1).trans rfl; have hcz44_2 : w43.cell? ⟨gb206, 2, none⟩ = some (.int .i64 a0_2) := (blk_cell BK206.out 2).trans rfl; have hfz44_0 := blk_frozen BK206.out 0; have hfz44_1 := blk_frozen BK206.out 1; have hfz44_2 := blk_frozen BK206.out 2) | (go_at_call 17; (try simp only [i64_w, i32_w]); (with_reducible refine (lots_Cost.calls kj6 _ _ l0_0 _ _ l0_1 a0_2 _ _ l1 t221 t222 _ ?side1 ?side2 ?side3 ?side4 ?side5 ?side6 ?side7 A35.out).mono ?_); (case side1 => exact GlobOK.below HG.out (by repeat (first | (with_reducible first | exact HB.out | apply below_alloc | apply pw_below_drewN | apply below_drew1 | refine below_set ?_ GE206.out) | exact HB.out))); (case side2 => repeat (first | exact (Kd.C_below HR0_0.out HB.out) | (with_reducible refine Kd.C_alloc ?_ _) | (with_reducible refine Kd.C_drewN ?_ _) | (with_reducible refine Kd.C_drew ?_))); (case side3 => exact HC0_0.out); (case side4 => repeat (first | exact (Kd.C_below HR0_1.out HB.out) | (with_reducible refine Kd.C_alloc ?_ _) | (with_reducible refine Kd.C_drewN ?_ _) | (with_reducible refine Kd.C_drew ?_))); (case side5 => exact HC0_1.out); (case side6 => repeat (first | exact (Kd.C_below HR1.out HB.out) | (with_reducible refine Kd.C_alloc ?_ _) | (with_reducible refine Kd.C_drewN ?_ _) | (with_reducible refine Kd.C_drew ?_))); (case side7 => exact HC1.out); rintro e w45 ⟨rfl, hb⟩; have n0_ := Aside0.mk (Kd.R_below (by (with_reducible repeat (first | apply Kd.R_alloc | apply Kd.R_drewN | apply Kd.R_drew)); exact HO216.out) hb); have n1_ := Aside0.mk (blk_below (g := gb206) (o := .cells #[.slice (some ad213) l0_0.length c0_0, .slice A0_1 l0_1.length c0_1, .int .i64 a0_2] 29 (0, 0)) (by (with_reducible repeat (first | refine blk_drewN ?_ _ | refine blk_drew ?_ | refine blk_alloc ?_ _)); exact BK206.out) hb); have n2_ := Aside0.mk (below_step (by repeat (first | (with_reducible first | exact HB.out | apply below_alloc | apply pw_below_drewN | apply below_drew1 | refine below_set ?_ GE206.out) | exact HB.out)) hb); clear HO216; clear BK206; clear HB; have HO216 := n0_; have BK206 := n1_; have HB := n2_; clear n0_ n1_ n2_; (try clear hb); (try clear hb2); (try clear hk); (try clear hi); have hcz46_0 : w45.cell? ⟨gb206, 0, none⟩ = some (.slice (some ad213) l0_0.length c0_0) := (blk_cell BK206.out 0).trans rfl; have hcz46_1 : w45.cell? ⟨gb206, 1, none⟩ = some (.slice A0_1 l0_1.length c0_1) := (blk_cell BK206.out 1).trans rfl; have hcz46_2 : w45.cell? ⟨gb206, 2, none⟩ = some (.int .i64 a0_2) := (blk_cell BK206.out 2).trans rfl; have hfz46_0 := blk_frozen BK206.out 0; have hfz46_1 := blk_frozen BK206.out 1; have hfz46_2 := blk_frozen BK206.out 2) | (go_at_call 17; refine calls_of_args (args' := #[.agg #[.slice (some ad213) l0_0.length c0_0, .slice A0_1 l0_1.length c0_1, .int .i64 a0_2], .slice (some ⟨go33, 0, none⟩) y218.length co39]) (by first | (rw [show y218.length = t214.length from (Kd.R_reads' HO216.out).1.symm] <;> rfl) | rfl) ?_; (with_reducible refine (lots_Cost.calls kj6 _ _ l0_0 _ _ l0_1 a0_2 _ _ y218 t223 t224 _ ?side1 ?side2 ?side3 ?side4 ?side5 ?side6 ?side7 A36.out).mono ?_); (case side1 => exact GlobOK.below HG.out (by repeat (first | (with_reducible first | exact HB.out | apply below_alloc | apply pw_below_drewN | apply below_drew1 | refine below_set ?_ GE206.out) | exact HB.out))); (case side2 => repeat (first | exact (Kd.C_below HR0_0.out HB.out) | (with_reducible refine Kd.C_alloc ?_ _) | (with_reducible refine Kd.C_drewN ?_ _) | (with_reducible refine Kd.C_drew ?_))); (case side3 => exact HC0_0.out); (case side4 => repeat (first | exact (Kd.C_below HR0_1.out HB.out) | (with_reducible refine Kd.C_alloc ?_ _) | (with_reducible refine Kd.C_drewN ?_ _) | (with_reducible refine Kd.C_drew ?_))); (case side5 => exact HC0_1.out); (case side6 => repeat (first | exact (Kd.R_reads' HO216.out).2.2 | (with_reducible refine Kd.C_alloc ?_ _) | (with_reducible refine Kd.C_drewN ?_ _) | (with_reducible refine Kd.C_drew ?_))); (case side7 => rw [show y218.length = t214.length from (Kd.R_reads' HO216.out).1.symm]; exact (Kd.R_reads' HO216.out).2.1); rintro e w47 ⟨rfl, hb⟩; have n0_ := Aside0.mk (Kd.R_below (by (with_reducible repeat (first | apply Kd.R_alloc | apply Kd.R_drewN | apply Kd.R_drew)); exact HO216.out) hb); have n1_ := Aside0.mk (blk_below (g := gb206) (o := .cells #[.slice (some ad213) l0_0.length c0_0, .slice A0_1 l0_1.length c0_1, .int .i64 a0_2] 29 (0, 0)) (by (with_reducible repeat (first | refine blk_drewN ?_ _ | refine blk_drew ?_ | refine blk_alloc ?_ _)); exact BK206.out) hb); have n2_ := Aside0.mk (below_step (by repeat (first | (with_reducible first | exact HB.out | apply below_alloc | apply pw_below_drewN | apply below_drew1 | refine below_set ?_ GE206.out) | exact HB.out)) hb); clear HO216; clear BK206; clear HB; have HO216 := n0_; have BK206 := n1_; have HB := n2_; clear n0_ n1_ n2_; (try clear hb); (try clear hb2); (try clear hk); (try clear hi); have hcz48_0 : w47.cell? ⟨gb206, 0, none⟩ = some (.slice (some ad213) l0_0.length c0_0) := (blk_cell BK206.out 0).trans rfl; have hcz48_1 : w47.cell? ⟨gb206, 1, none⟩ = some (.slice A0_1 l0_1.length c0_1) := (blk_cell BK206.out 1).trans rfl; have hcz48_2 : w47.cell? ⟨gb206, 2, none⟩ = some (.int .i64 a0_2) := (blk_cell BK206.out 2).trans rfl; have hfz48_0 := blk_frozen BK206.out 0; have hfz48_1 := blk_frozen BK206.out 1; have hfz48_2 := blk_frozen BK206.out 2) | ((with_reducible refine gate_dst (N := 17) rfl ?_); (try (refine gate_guard (by rfl) ?_; dsimp only)); refine box_event ?hg (N := 17) ?hd (cs := #[.slice none 0 0, .slice none 0 0, .int .i64 0]) (t := 29) ?hr ?_; (case hd => rfl); (case hg => rfl); (case hr => first | (go_simp; done) | (go_simp; rfl)); intro gb225 hg w49 hbox hb; have n0_ := Aside0.mk (Kd.R_below (by (with_reducible repeat (first | apply Kd.R_alloc | apply Kd.R_drewN | apply Kd.R_drew)); exact HO216.out) hb); have n1_ := Aside0.mk (blk_below (g := gb206) (o := .cells #[.slice (some ad213) l0_0.length c0_0, .slice A0_1 l0_1.length c0_1, .int .i64 a0_2] 29 (0, 0)) (by (with_reducible repeat (first | refine blk_drewN ?_ _ | refine blk_drew ?_ | refine blk_alloc ?_ _)); exact BK206.out) hb); have n2_ := Aside0.mk (below_step (by repeat (first | (with_reducible first | exact HB.out | apply below_alloc | apply pw_below_drewN | apply below_drew1 | refine below_set ?_ GE206.out) | exact HB.out)) hb); have n3_ := Aside0.mk (hbox); have n4_ := Aside0.mk ((by rw [hg]; exact (below_size (by repeat (first | (with_reducible first | exact HB.out | apply below_alloc | apply pw_below_drewN | apply below_drew1 | refine below_set ?_ GE206.out) | exact HB.out))) : w.heap.size ≤ gb225)); have n5_ := Aside0.mk ((by rw [hg]; exact (below_size (by repeat (first | (with_reducible first | exact HB.out | apply below_alloc | apply pw_below_drewN | apply below_drew1 | refine below_set ?_ GE206.out) | exact HB.out))) : w.heap.size ≤ gb225)); have n6_ := Aside0.mk ((by rw [hg]; exact Nat.ne_of_lt (blk_lt (g := gb206) (o := .cells #[.slice (some ad213) l0_0.length c0_0, .slice A0_1 l0_1.length c0_1, .int .i64 a0_2] 29 (0, 0)) (by (with_reducible repeat (first | refine blk_drewN ?_ _ | refine blk_drew ?_ | refine blk_alloc ?_ _)); exact BK206.out)) : gb206 ≠ gb225)); have n7_ := Aside0.mk ((by rw [hg]; exact Nat.ne_of_gt (blk_lt (g := gb206) (o := .cells #[.slice (some ad213) l0_0.length c0_0, .slice A0_1 l0_1.length c0_1, .int .i64 a0_2] 29 (0, 0)) (by (with_reducible repeat (first | refine blk_drewN ?_ _ | refine blk_drew ?_ | refine blk_alloc ?_ _)); exact BK206.out)) : gb225 ≠ gb206)); clear HO216; clear BK206; clear HB; have HO216 := n0_; have BK206 := n1_; have HB := n2_; have BK225 := n3_; have GW225 := n4_; have GE225 := n5_; have NB206_225 := n6_; have NB225_206 := n7_; clear n0_ n1_ n2_ n3_ n4_ n5_ n6_ n7_; clear hb hbox hg; have hnb50 := NB225_206.out; have hnc50 := NB206_225.out; have hcz51_0 : w49.cell? ⟨gb225, 0, none⟩ = some (.slice none 0 0) := (blk_cell BK225.out 0).trans rfl; have hcz51_1 : w49.cell? ⟨gb225, 1, none⟩ = some (.slice none 0 0) := (blk_cell BK225.out 1).trans rfl; have hcz51_2 : w49.cell? ⟨gb225, 2, none⟩ = some (.int .i64 0) := (blk_cell BK225.out 2).trans rfl; have hfz51_0 := blk_frozen BK225.out 0; have hfz51_1 := blk_frozen BK225.out 1; have hfz51_2 := blk_frozen BK225.out 2)))
          go_loopg [18] kj6 (fun kq v18 w' => ∃ (x18_2 : Int) (x226001_2 : List Int) (u226001 : Value), v18 = .int .i64 x18_2 ∧ Aside0 (pledgelaw18_LotsGrow.l0 kq l1 t211 t208 y218 t219 t220 t221 t223 x18_2 l0_0 l0_1 a0_2 l0_0 x226001_2 a0_2 = some r) ∧ Aside0 (kq ≤ kj6) ∧ Aside0 (Kd.R (Kd.int .i64) 3 w' w.heap.size (fun _ => True) (.slice (some ⟨go33, 0, none⟩) t214.length co39) y218) ∧ Aside0 (Kd.R (Kd.int .i64) 2 w' w.heap.size (fun _ => True) u226001 x226001_2) ∧ Aside0 (w'.heap[gb206]? = some (.cells #[(.slice (some ad213) l0_0.length c0_0), (.slice A0_1 l0_1.length c0_1), .int .i64 a0_2] 29 (0, 0))) ∧ Aside0 (w'.heap[gb225]? = some (.cells #[(.slice (some ad213) l0_0.length c0_0), u226001, .int .i64 a0_2] 29 (0, 0))) ∧ Aside0 (Below w.heap.size w w'))
          case atStart => exact ⟨(0), (([] : List Int)), (.slice none 0 0), (by first | rfl | (simp; done) | (simp [*]; done) | (simp [wrap64]; done) | (simp [wrap64]; omega)), H', ⟨Nat.le_refl _⟩, ⟨by (with_reducible repeat (first | apply Kd.R_alloc | apply Kd.R_drewN | apply Kd.R_drew)); exact Kd.R_mono (Kd.R_far (p := ⟨gb225, 2, none⟩) (Kd.R_far (p := ⟨gb225, 1, none⟩) (Kd.R_far (p := ⟨gb225, 0, none⟩) (Kd.R_types HO216.out BK225.out (by decide)) (fun _ hk => hk.2) (.slice (some ad213) l0_0.length c0_0)) (fun _ hk => hk.2) (.slice none 0 0)) (fun _ hk => hk.2) (.int .i64 a0_2)) (fun _ hk => trivial)⟩, ⟨by first | exact Kd.R_nil _ _ _ _ _ | exact Kd.N_nil _ _ _ _ _ | exact Kd.V_nil _ _ _ _ _ | exact Kd.Q_nil _ _ _ _ _ | exact Kd.S_nil _ _ _ _ _⟩, ⟨by (with_reducible repeat (first | refine blk_drewN ?_ _ | refine blk_drew ?_ | refine blk_alloc ?_ _ | refine blk_far ?_ NB206_225.out _)); exact BK206.out⟩, ⟨by (with_reducible repeat (first | refine blk_drewN ?_ _ | refine blk_drew ?_ | refine blk_alloc ?_ _)); refine blk_put (cs := #[.slice (some ad213) l0_0.length c0_0, .slice none 0 0, .int .i64 0]) ?_ 2 _ rfl; (with_reducible repeat (first | refine blk_drewN ?_ _ | refine blk_drew ?_ | refine blk_alloc ?_ _)); refine blk_put (cs := #[.slice (some ad213) l0_0.length c0_0, .slice none 0 0, .int .i64 0]) ?_ 1 _ rfl; (with_reducible repeat (first | refine blk_drewN ?_ _ | refine blk_drew ?_ | refine blk_alloc ?_ _)); refine blk_put (cs := #[.slice none 0 0, .slice none 0 0, .int .i64 0]) ?_ 0 _ rfl; (with_reducible repeat (first | refine blk_drewN ?_ _ | refine blk_drew ?_ | refine blk_alloc ?_ _)); exact BK225.out⟩, ⟨by repeat (first | (with_reducible first | exact HB.out | apply below_alloc | apply pw_below_drewN | apply below_drew1 | refine below_set ?_ GE206.out | refine below_set ?_ GE225.out) | exact HB.out)⟩⟩
          case round =>
           clear H'
           try clear c1
           try clear c2
           try clear p2
           try clear q2
           try clear hx2
           try clear c3
           try clear p3
           try clear q3
           try clear hx3
           try clear hf3
           try clear c5
           try clear p6
           try clear c13
           try clear c14
           try clear c15
           try clear c15b0
           try clear c15b1
           try clear c15b2
           try clear p21
           try clear q21
           try clear hx21
           try clear c24
           try clear c26
           try clear c26b0
           try clear c27
           try clear c27b0
           try clear c28
           try clear c28b0
           try clear c29
           try clear c29b0
           try clear c29b1
           try clear c32
           try clear c32b0
           try clear p33
           try clear q33
           try clear hx33
           try clear hf33
           try clear c50
           try clear hcz10_0
           try clear hcz10_1
           try clear hcz10_2
           try clear hcz16_0
           try clear hcz16_1
           try clear hcz16_2
           try clear hcz18_0
           try clear hcz18_1
           try clear hcz18_2
           try clear hcz20_0
           try clear hcz20_1
           try clear hcz20_2
           try clear hcz22_0
           try clear hcz22_1
           try clear hcz22_2
           try clear hcz30_0
           try clear hcz30_1
           try clear hcz30_2
           try clear hcz37_0
           try clear hcz37_1
           try clear hcz37_2
           try clear hcz42_0
           try clear hcz42_1
           try clear hcz42_2
           try clear hcz44_0
           try clear hcz44_1
           try clear hcz44_2
           try clear hcz46_0
           try clear hcz46_1
           try clear hcz46_2
           try clear hcz48_0
           try clear hcz48_1
           try clear hcz48_2
           try clear hcz51_0
           try clear hcz51_1
           try clear hcz51_2
           try clear hfz10_0
           try clear hfz10_1
           try clear hfz10_2
           try clear hfz16_0
           try clear hfz16_1
           try clear hfz16_2
           try clear hfz18_0
           try clear hfz18_1
           try clear hfz18_2
           try clear hfz20_0
           try clear hfz20_1
           try clear hfz20_2
           try clear hfz22_0
           try clear hfz22_1
           try clear hfz22_2
           try clear hfz30_0
           try clear hfz30_1
           try clear hfz30_2
           try clear hfz37_0
           try clear hfz37_1
           try clear hfz37_2
           try clear hfz42_0
           try clear hfz42_1
           try clear hfz42_2
           try clear hfz44_0
           try clear hfz44_1
           try clear hfz44_2
           try clear hfz46_0
           try clear hfz46_1
           try clear hfz46_2
           try clear hfz48_0
           try clear hfz48_1
           try clear hfz48_2
           try clear hfz51_0
           try clear hfz51_1
           try clear hfz51_2
           try clear hx212_0
           try clear hx213_0
           try clear hx213_1
           try clear hx213_2
           try clear hx213_3
           try clear hx217_0
           try clear hx33_0
           try clear p2
           try clear p212
           try clear p213
           try clear p217
           try clear p33
           try clear q212
           try clear q213
           try clear q217
           try clear q33
           obtain ⟨x18_2, x226001_2, u226001, rfl, HA, HK2, HO_10, HO_226001, BK206, BK225, HB⟩ := hrel
           have hl10_2 := (Kd.R_reads' HO_10.out).1
           rw [hl10_2] at HO_10
           (try simp only [hl10_2])
           (try simp only [hl10_2] at BK206)
           (try simp only [hl10_2] at BK225)
           (try simp only [hl10_2] at HO_226001)
           cases gk with
           | zero => exact absurd HA.out (by simp [pledgelaw18_LotsGrow.l0])
           | succ k2 =>
            have H := HA.out
            clear HA
            simp only [pledgelaw18_LotsGrow.l0] at H
            by_cases c52 : x18_2 < (l0_1.length : Int)
            ·
             rw [if_pos c52] at H
             have c52b0 : decide (x18_2 < (l0_1.length : Int)) = true := decide_eq_true c52
             clear c52
             by_cases c53 : x226001_2.length < 17592186044416
             ·
              rw [if_pos c53] at H
              have LMc53 := Aside0.mk c53
              clear c53
              obtain ⟨y226, hy226⟩ : ∃ y_ : List Int, y_ = (x226001_2 ++ [0]) := ⟨_, rfl⟩
              replace H : (pledgelaw18_LotsGrow.l0 k2 l1 t211 t208 y218 t219 t220 t221 t223 (wrap64 (x18_2 + 1)) l0_0 l0_1 a0_2 l0_0 y226 a0_2) = some r := by first | (rw [hy226]; with_reducible exact H) | (have H2_ := (Option.bind_some _ _).symm.trans H; rw [hy226]; with_reducible exact H2_) | (have H2_ := (Option.bind_some _ _).symm.trans H; with_reducible exact H2_) | with_reducible exact H | (rw [hy226]; exact H) | exact H
              have Ny226 := Aside0.mk hy226
              clear hy226
              have H' := Aside0.mk H
              clear H
              have hnb54 := NB206_225.out
              have hnc54 := NB225_206.out
              have hcz55_0 : wr.cell? ⟨gb206, 0, none⟩ = some (.slice (some ad213) l0_0.length c0_0) := (blk_cell BK206.out 0).trans rfl
              have hcz55_1 : wr.cell? ⟨gb206, 1, none⟩ = some (.slice A0_1 l0_1.length c0_1) := (blk_cell BK206.out 1).trans rfl
              have hcz55_2 : wr.cell? ⟨gb206, 2, none⟩ = some (.int .i64 a0_2) := (blk_cell BK206.out 2).trans rfl
              have hfz55_0 := blk_frozen BK206.out 0
              have hfz55_1 := blk_frozen BK206.out 1
              have hfz55_2 := blk_frozen BK206.out 2
              have hcz56_0 : wr.cell? ⟨gb225, 0, none⟩ = some (.slice (some ad213) l0_0.length c0_0) := (blk_cell BK225.out 0).trans rfl
              have hcz56_1 : wr.cell? ⟨gb225, 1, none⟩ = some (u226001) := (blk_cell BK225.out 1).trans rfl
              have hcz56_2 : wr.cell? ⟨gb225, 2, none⟩ = some (.int .i64 a0_2) := (blk_cell BK225.out 2).trans rfl
              have hfz56_0 := blk_frozen BK225.out 0
              have hfz56_1 := blk_frozen BK225.out 1
              have hfz56_2 := blk_frozen BK225.out 2
              go_wp2_with (first | ((with_reducible refine gate_builtin (b := .append) (xs := #[.tmp 104, .tmp 105]) rfl ?_); (try (refine gate_guard (by rfl) ?_; dsimp only)); at_builtin; refine Kd.R_append (Kd.int .i64) (w0 := w) w.heap.size rfl (.tmp 104) (.tmp 105) 27 2 (.int .i64 0) 8 rfl Tryd.underlying27 info2 rfl (by decide) (by omega) u226001 x226001_2 0 [.int .i64 0] (fun _ => True) (fun _ => False) rfl rfl ?aP (fun _ hk => hk.elim) ?aF ?aO ?aB ?aS ?aL ?_; (case aP => exact rfl); (case aB => exact (by repeat (first | (with_reducible first | exact HB.out | apply below_alloc | apply pw_below_drewN | apply below_drew1 | refine below_set ?_ GE206.out | refine below_set ?_ GE225.out) | exact HB.out))); (case aF => exact (fun _ _ => trivial)); (case aO => exact (by (with_reducible repeat (first | apply Kd.R_alloc | apply Kd.R_drewN | apply Kd.R_drew)); exact HO_226001.out)); (case aS => exact (below_size (by repeat (first | (with_reducible first | exact HB.out | apply below_alloc | apply pw_below_drewN | apply below_drew1 | refine below_set ?_ GE206.out | refine below_set ?_ GE225.out) | exact HB.out)))); (case aL => have := LMc53.out; omega); intro v227 w57 ho hb hg hat; rw [← Ny226.out] at ho; have n0_ := Aside0.mk (Kd.R_over' (by (with_reducible repeat (first | apply Kd.R_alloc | apply Kd.R_drewN | apply Kd.R_drew)); exact HO_10.out) (Kd.R_typed (by (with_reducible repeat (first | apply Kd.R_alloc | apply Kd.R_drewN | apply Kd.R_drew)); exact HO_226001.out)) (by decide) hg); have n1_ := Aside0.mk (blk_grown (g := gb206) (o := .cells #[.slice (some ad213) l0_0.length c0_0, .slice A0_1 l0_1.length c0_1, .int .i64 a0_2] 29 (0, 0)) (by (with_reducible repeat (first | refine blk_drewN ?_ _ | refine blk_drew ?_ | refine blk_alloc ?_ _)); exact BK206.out) hg (Kd.R_ne HO_226001.out BK206.out (by decide))); have n2_ := Aside0.mk (blk_grown (g := gb225) (o := .cells #[.slice (some ad213) l0_0.length c0_0, u226001, .int .i64 a0_2] 29 (0, 0)) (by (with_reducible repeat (first | refine blk_drewN ?_ _ | refine blk_drew ?_ | refine blk_alloc ?_ _)); exact BK225.out) hg (Kd.R_ne HO_226001.out BK225.out (by decide))); have n3_ := Aside0.mk (hb); have n4_ := Aside0.mk (ho); clear HO_10; clear BK206; clear BK225; clear HB; clear HO_226001; have HO_10 := n0_; have BK206 := n1_; have BK225 := n2_; have HB := n3_; have HO228 := n4_; clear n0_ n1_ n2_ n3_ n4_; clear ho hb hg hat; obtain ⟨Ao58, co58, eo58⟩ := Kd.R_slice HO228.out; subst eo58; have hcz59_0 : w57.cell? ⟨gb225, 0, none⟩ = some (.slice (some ad213) l0_0.length c0_0) := (blk_cell BK225.out 0).trans rfl; have hcz59_1 : w57.cell? ⟨gb225, 1, none⟩ = some (u226001) := (blk_cell BK225.out 1).trans rfl; have hcz59_2 : w57.cell? ⟨gb225, 2, none⟩ = some (.int .i64 a0_2) := (blk_cell BK225.out 2).trans rfl; have hfz59_0 := blk_frozen BK225.out 0; have hfz59_1 := blk_frozen BK225.out 1; have hfz59_2 := blk_frozen BK225.out 2))
              repeat (go_quiet (first | ((with_reducible refine gate_builtin (b := .append) (xs := #[.tmp 104, .tmp 105]) rfl ?_); (try (refine gate_guard (by rfl) ?_; dsimp only)); at_builtin; refine Kd.R_append (Kd.int .i64) (w0 := w) w.heap.size rfl (.tmp 104) (.tmp 105) 27 2 (.int .i64 0) 8 rfl Tryd.underlying27 info2 rfl (by decide) (by omega) u226001 x226001_2 0 [.int .i64 0] (fun _ => True) (fun _ => False) rfl rfl ?aP (fun _ hk => hk.elim) ?aF ?aO ?aB ?aS ?aL ?_; (case aP => exact rfl); (case aB => exact (by repeat (first | (with_reducible first | exact HB.out | apply below_alloc | apply pw_below_drewN | apply below_drew1 | refine below_set ?_ GE206.out | refine below_set ?_ GE225.out) | exact HB.out))); (case aF => exact (fun _ _ => trivial)); (case aO => exact (by (with_reducible repeat (first | apply Kd.R_alloc | apply Kd.R_drewN | apply Kd.R_drew)); exact HO_226001.out)); (case aS => exact (below_size (by repeat (first | (with_reducible first | exact HB.out | apply below_alloc | apply pw_below_drewN | apply below_drew1 | refine below_set ?_ GE206.out | refine below_set ?_ GE225.out) | exact HB.out)))); (case aL => have := LMc53.out; omega); intro v227 w57 ho hb hg hat; rw [← Ny226.out] at ho; have n0_ := Aside0.mk (Kd.R_over' (by (with_reducible repeat (first | apply Kd.R_alloc | apply Kd.R_drewN | apply Kd.R_drew)); exact HO_10.out) (Kd.R_typed (by (with_reducible repeat (first | apply Kd.R_alloc | apply Kd.R_drewN | apply Kd.R_drew)); exact HO_226001.out)) (by decide) hg); have n1_ := Aside0.mk (blk_grown (g := gb206) (o := .cells #[.slice (some ad213) l0_0.length c0_0, .slice A0_1 l0_1.length c0_1, .int .i64 a0_2] 29 (0, 0)) (by (with_reducible repeat (first | refine blk_drewN ?_ _ | refine blk_drew ?_ | refine blk_alloc ?_ _)); exact BK206.out) hg (Kd.R_ne HO_226001.out BK206.out (by decide))); have n2_ := Aside0.mk (blk_grown (g := gb225) (o := .cells #[.slice (some ad213) l0_0.length c0_0, u226001, .int .i64 a0_2] 29 (0, 0)) (by (with_reducible repeat (first | refine blk_drewN ?_ _ | refine blk_drew ?_ | refine blk_alloc ?_ _)); exact BK225.out) hg (Kd.R_ne HO_226001.out BK225.out (by decide))); have n3_ := Aside0.mk (hb); have n4_ := Aside0.mk (ho); clear HO_10; clear BK206; clear BK225; clear HB; clear HO_226001; have HO_10 := n0_; have BK206 := n1_; have BK225 := n2_; have HB := n3_; have HO228 := n4_; clear n0_ n1_ n2_ n3_ n4_; clear ho hb hg hat; obtain ⟨Ao58, co58, eo58⟩ := Kd.R_slice HO228.out; subst eo58; have hcz59_0 : w57.cell? ⟨gb225, 0, none⟩ = some (.slice (some ad213) l0_0.length c0_0) := (blk_cell BK225.out 0).trans rfl; have hcz59_1 : w57.cell? ⟨gb225, 1, none⟩ = some (u226001) := (blk_cell BK225.out 1).trans rfl; have hcz59_2 : w57.cell? ⟨gb225, 2, none⟩ = some (.int .i64 a0_2) := (blk_cell BK225.out 2).trans rfl; have hfz59_0 := blk_frozen BK225.out 0; have hfz59_1 := blk_frozen BK225.out 1; have hfz59_2 := blk_frozen BK225.out 2)); try go_wp2_with (first | ((with_reducible refine gate_builtin (b := .append) (xs := #[.tmp 104, .tmp 105]) rfl ?_); (try (refine gate_guard (by rfl) ?_; dsimp only)); at_builtin; refine Kd.R_append (Kd.int .i64) (w0 := w) w.heap.size rfl (.tmp 104) (.tmp 105) 27 2 (.int .i64 0) 8 rfl Tryd.underlying27 info2 rfl (by decide) (by omega) u226001 x226001_2 0 [.int .i64 0] (fun _ => True) (fun _ => False) rfl rfl ?aP (fun _ hk => hk.elim) ?aF ?aO ?aB ?aS ?aL ?_; (case aP => exact rfl); (case aB => exact (by repeat (first | (with_reducible first | exact HB.out | apply below_alloc | apply pw_below_drewN | apply below_drew1 | refine below_set ?_ GE206.out | refine below_set ?_ GE225.out) | exact HB.out))); (case aF => exact (fun _ _ => trivial)); (case aO => exact (by (with_reducible repeat (first | apply Kd.R_alloc | apply Kd.R_drewN | apply Kd.R_drew)); exact HO_226001.out)); (case aS => exact (below_size (by repeat (first | (with_reducible first | exact HB.out | apply below_alloc | apply pw_below_drewN | apply below_drew1 | refine below_set ?_ GE206.out | refine below_set ?_ GE225.out) | exact HB.out)))); (case aL => have := LMc53.out; omega); intro v227 w57 ho hb hg hat; rw [← Ny226.out] at ho; have n0_ := Aside0.mk (Kd.R_over' (by (with_reducible repeat (first | apply Kd.R_alloc | apply Kd.R_drewN | apply Kd.R_drew)); exact HO_10.out) (Kd.R_typed (by (with_reducible repeat (first | apply Kd.R_alloc | apply Kd.R_drewN | apply Kd.R_drew)); exact HO_226001.out)) (by decide) hg); have n1_ := Aside0.mk (blk_grown (g := gb206) (o := .cells #[.slice (some ad213) l0_0.length c0_0, .slice A0_1 l0_1.length c0_1, .int .i64 a0_2] 29 (0, 0)) (by (with_reducible repeat (first | refine blk_drewN ?_ _ | refine blk_drew ?_ | refine blk_alloc ?_ _)); exact BK206.out) hg (Kd.R_ne HO_226001.out BK206.out (by decide))); have n2_ := Aside0.mk (blk_grown (g := gb225) (o := .cells #[.slice (some ad213) l0_0.length c0_0, u226001, .int .i64 a0_2] 29 (0, 0)) (by (with_reducible repeat (first | refine blk_drewN ?_ _ | refine blk_drew ?_ | refine blk_alloc ?_ _)); exact BK225.out) hg (Kd.R_ne HO_226001.out BK225.out (by decide))); have n3_ := Aside0.mk (hb); have n4_ := Aside0.mk (ho); clear HO_10; clear BK206; clear BK225; clear HB; clear HO_226001; have HO_10 := n0_; have BK206 := n1_; have BK225 := n2_; have HB := n3_; have HO228 := n4_; clear n0_ n1_ n2_ n3_ n4_; clear ho hb hg hat; obtain ⟨Ao58, co58, eo58⟩ := Kd.R_slice HO228.out; subst eo58; have hcz59_0 : w57.cell? ⟨gb225, 0, none⟩ = some (.slice (some ad213) l0_0.length c0_0) := (blk_cell BK225.out 0).trans rfl; have hcz59_1 : w57.cell? ⟨gb225, 1, none⟩ = some (u226001) := (blk_cell BK225.out 1).trans rfl; have hcz59_2 : w57.cell? ⟨gb225, 2, none⟩ = some (.int .i64 a0_2) := (blk_cell BK225.out 2).trans rfl; have hfz59_0 := blk_frozen BK225.out 0; have hfz59_1 := blk_frozen BK225.out 1; have hfz59_2 := blk_frozen BK225.out 2)))
              (try simp only [← hl10_2])
              go_roundg k2
              case measure => have := HJ6.out; have := HK2.out; omega
              case rel => exact ⟨(wrap64 (x18_2 + 1)), (y226), (.slice Ao58 y226.length co58), (by first | rfl | (simp; done) | (simp [*]; done) | (simp [wrap64]; done) | (simp [wrap64]; omega)), H', ⟨by have := HJ6.out; have := HK2.out; omega⟩, ⟨by (try simp only [hl10_2]); (with_reducible repeat (first | apply Kd.R_alloc | apply Kd.R_drewN | apply Kd.R_drew)); exact Kd.R_mono (Kd.R_far (p := ⟨gb225, 1, none⟩) (Kd.R_types HO_10.out BK225.out (by decide)) (fun _ hk => hk.2) (.slice Ao58 y226.length co58)) (fun _ hk => trivial)⟩, ⟨by (try simp only [hl10_2]); (with_reducible repeat (first | apply Kd.R_alloc | apply Kd.R_drewN | apply Kd.R_drew)); exact Kd.R_mono (Kd.R_far (p := ⟨gb225, 1, none⟩) (Kd.R_types HO228.out BK225.out (by decide)) (fun _ hk => hk.2) (.slice Ao58 y226.length co58)) (fun _ hk => trivial)⟩, ⟨by (try simp only [hl10_2]); (with_reducible repeat (first | refine blk_drewN ?_ _ | refine blk_drew ?_ | refine blk_alloc ?_ _ | refine blk_far ?_ NB206_225.out _)); exact BK206.out⟩, ⟨by (try simp only [hl10_2]); (with_reducible repeat (first | refine blk_drewN ?_ _ | refine blk_drew ?_ | refine blk_alloc ?_ _)); refine blk_put (cs := #[.slice (some ad213) l0_0.length c0_0, u226001, .int .i64 a0_2]) ?_ 1 _ rfl; (with_reducible repeat (first | refine blk_drewN ?_ _ | refine blk_drew ?_ | refine blk_alloc ?_ _)); exact BK225.out⟩, ⟨by repeat (first | (with_reducible first | exact HB.out | apply below_alloc | apply pw_below_drewN | apply below_drew1 | refine below_set ?_ GE206.out | refine below_set ?_ GE225.out) | exact HB.out)⟩⟩
             ·
              rw [if_neg c53] at H
              exact absurd H (by simp)
            ·
             rw [if_neg c52] at H
             have c52b0 : decide (x18_2 < (l0_1.length : Int)) = false := decide_eq_false c52
             clear c52
             replace H := Option.bind_eq_some_iff.mp H
             obtain ⟨⟨t229, t230⟩, A600, H⟩ := H
             replace H : ((lots_Worth.f k2 l0_0 x226001_2 a0_2 y218).bind fun bt231 => (if t220 = true then (if t219 ≥ t208 then (if 0 ≤ t211 then (if t211 < (l0_0.length : Int) then (if (wrap64 (t219 - t208)) ≤ ((rd_T25 l0_0 t211).f1) then (if (wrap64 (t223 - t221)) = ((rd_T25 l0_0 t211).f2) then (if t229 ≥ t208 then (if (wrap64 (bt231.1 - t229)) = ((rd_T25 l0_0 t211).f1) then ((lots_Most.f k2 l0_0 l0_1 a0_2).bind fun t236 => (pledgelaw18_LotsGrow.j2 k2 (decide (t236 ≥ t219)))) else (pledgelaw18_LotsGrow.j2 k2 false)) else (pledgelaw18_LotsGrow.j2 k2 false)) else (pledgelaw18_LotsGrow.j2 k2 false)) else (pledgelaw18_LotsGrow.j2 k2 false)) else (none)) else (none)) else (pledgelaw18_LotsGrow.j2 k2 false)) else (pledgelaw18_LotsGrow.j2 k2 false))) = some r := H
             have A60 := Aside0.mk A600
             clear A600
             replace H := Option.bind_eq_some_iff.mp H
             obtain ⟨⟨t231, t232⟩, A610, H⟩ := H
             replace H : (if t220 = true then (if t219 ≥ t208 then (if 0 ≤ t211 then (if t211 < (l0_0.length : Int) then (if (wrap64 (t219 - t208)) ≤ ((rd_T25 l0_0 t211).f1) then (if (wrap64 (t223 - t221)) = ((rd_T25 l0_0 t211).f2) then (if t229 ≥ t208 then (if (wrap64 (t231 - t229)) = ((rd_T25 l0_0 t211).f1) then ((lots_Most.f k2 l0_0 l0_1 a0_2).bind fun t236 => (pledgelaw18_LotsGrow.j2 k2 (decide (t236 ≥ t219)))) else (pledgelaw18_LotsGrow.j2 k2 false)) else (pledgelaw18_LotsGrow.j2 k2 false)) else (pledgelaw18_LotsGrow.j2 k2 false)) else (pledgelaw18_LotsGrow.j2 k2 false)) else (none)) else (none)) else (pledgelaw18_LotsGrow.j2 k2 false)) else (pledgelaw18_LotsGrow.j2 k2 false)) = some r := H
             have A61 := Aside0.mk A610
             clear A610
             have HC62 := Aside0.mk H
             clear H
             have hnb63 := NB206_225.out
             have hnc63 := NB225_206.out
             have hcz64_0 : wr.cell? ⟨gb206, 0, none⟩ = some (.slice (some ad213) l0_0.length c0_0) := (blk_cell BK206.out 0).trans rfl
             have hcz64_1 : wr.cell? ⟨gb206, 1, none⟩ = some (.slice A0_1 l0_1.length c0_1) := (blk_cell BK206.out 1).trans rfl
             have hcz64_2 : wr.cell? ⟨gb206, 2, none⟩ = some (.int .i64 a0_2) := (blk_cell BK206.out 2).trans rfl
             have hfz64_0 := blk_frozen BK206.out 0
             have hfz64_1 := blk_frozen BK206.out 1
             have hfz64_2 := blk_frozen BK206.out 2
             have hcz65_0 : wr.cell? ⟨gb225, 0, none⟩ = some (.slice (some ad213) l0_0.length c0_0) := (blk_cell BK225.out 0).trans rfl
             have hcz65_1 : wr.cell? ⟨gb225, 1, none⟩ = some (u226001) := (blk_cell BK225.out 1).trans rfl
             have hcz65_2 : wr.cell? ⟨gb225, 2, none⟩ = some (.int .i64 a0_2) := (blk_cell BK225.out 2).trans rfl
             have hfz65_0 := blk_frozen BK225.out 0
             have hfz65_1 := blk_frozen BK225.out 1
             have hfz65_2 := blk_frozen BK225.out 2
             obtain ⟨Ao66, co66, eo66⟩ := Kd.R_slice HO_226001.out
             subst eo66
             go_upto_region 22 with (first | (go_at_call 16; (with_reducible refine (lots_Worth.calls k2 _ _ l0_0 _ _ x226001_2 a0_2 _ _ l1 t229 t230 _ ?side1 ?side2 ?side3 ?side4 ?side5 ?side6 ?side7 A60.out).mono ?_); (case side1 => exact GlobOK.below HG.out (by repeat (first | (with_reducible first | exact HB.out | apply below_alloc | apply pw_below_drewN | apply below_drew1 | refine below_set ?_ GE206.out | refine below_set ?_ GE225.out) | exact HB.out))); (case side2 => repeat (first | exact (Kd.C_below HR0_0.out HB.out) | (with_reducible refine Kd.C_alloc ?_ _) | (with_reducible refine Kd.C_drewN ?_ _) | (with_reducible refine Kd.C_drew ?_))); (case side3 => exact HC0_0.out); (case side4 => repeat (first | exact (Kd.R_reads' HO_226001.out).2.2 | (with_reducible refine Kd.C_alloc ?_ _) | (with_reducible refine Kd.C_drewN ?_ _) | (with_reducible refine Kd.C_drew ?_))); (case side5 => exact (Kd.R_reads' HO_226001.out).2.1); (case side6 => repeat (first | exact (Kd.C_below HR1.out HB.out) | (with_reducible refine Kd.C_alloc ?_ _) | (with_reducible refine Kd.C_drewN ?_ _) | (with_reducible refine Kd.C_drew ?_))); (case side7 => exact HC1.out); rintro e w67 ⟨rfl, hb⟩; have n0_ := Aside0.mk (Kd.R_below (by (with_reducible repeat (first | apply Kd.R_alloc | apply Kd.R_drewN | apply Kd.R_drew)); exact HO_10.out) hb); have n1_ := Aside0.mk (Kd.R_below (by (with_reducible repeat (first | apply Kd.R_alloc | apply Kd.R_drewN | apply Kd.R_drew)); exact HO_226001.out) hb); have n2_ := Aside0.mk (blk_below (g := gb206) (o := .cells #[.slice (some ad213) l0_0.length c0_0, .slice A0_1 l0_1.length c0_1, .int .i64 a0_2] 29 (0, 0)) (by (with_reducible repeat (first | refine blk_drewN ?_ _ | refine blk_drew ?_ | refine blk_alloc ?_ _)); exact BK206.out) hb); have n3_ := Aside0.mk (blk_below (g := gb225) (o := .cells #[.slice (some ad213) l0_0.length c0_0, .slice Ao66 x226001_2.length co66, .int .i64 a0_2] 29 (0, 0)) (by (with_reducible repeat (first | refine blk_drewN ?_ _ | refine blk_drew ?_ | refine blk_alloc ?_ _)); exact BK225.out) hb); have n4_ := Aside0.mk (below_step (by repeat (first | (with_reducible first | exact HB.out | apply below_alloc | apply pw_below_drewN | apply below_drew1 | refine below_set ?_ GE206.out | refine below_set ?_ GE225.out) | exact HB.out)) hb); clear HO_10; clear HO_226001; clear BK206; clear BK225; clear HB; have HO_10 := n0_; have HO_226001 := n1_; have BK206 := n2_; have BK225 := n3_; have HB := n4_; clear n0_ n1_ n2_ n3_ n4_; (try clear hb); (try clear hb2); (try clear hk); (try clear hi); have hcz68_0 : w67.cell? ⟨gb225, 0, none⟩ = some (.slice (some ad213) l0_0.length c0_0) := (blk_cell BK225.out 0).trans rfl; have hcz68_1 : w67.cell? ⟨gb225, 1, none⟩ = some (.slice Ao66 x226001_2.length co66) := (blk_cell BK225.out 1).trans rfl; have hcz68_2 : w67.cell? ⟨gb225, 2, none⟩ = some (.int .i64 a0_2) := (blk_cell BK225.out 2).trans rfl; have hfz68_0 := blk_frozen BK225.out 0; have hfz68_1 := blk_frozen BK225.out 1; have hfz68_2 := blk_frozen BK225.out 2) | (go_at_call 16; (with_reducible refine (lots_Worth.calls k2 _ _ l0_0 _ _ x226001_2 a0_2 _ _ y218 t231 t232 _ ?side1 ?side2 ?side3 ?side4 ?side5 ?side6 ?side7 A61.out).mono ?_); (case side1 => exact GlobOK.below HG.out (by repeat (first | (with_reducible first | exact HB.out | apply below_alloc | apply pw_below_drewN | apply below_drew1 | refine below_set ?_ GE206.out | refine below_set ?_ GE225.out) | exact HB.out))); (case side2 => repeat (first | exact (Kd.C_below HR0_0.out HB.out) | (with_reducible refine Kd.C_alloc ?_ _) | (with_reducible refine Kd.C_drewN ?_ _) | (with_reducible refine Kd.C_drew ?_))); (case side3 => exact HC0_0.out); (case side4 => repeat (first | exact (Kd.R_reads' HO_226001.out).2.2 | (with_reducible refine Kd.C_alloc ?_ _) | (with_reducible refine Kd.C_drewN ?_ _) | (with_reducible refine Kd.C_drew ?_))); (case side5 => exact (Kd.R_reads' HO_226001.out).2.1); (case side6 => repeat (first | exact (Kd.R_reads' HO_10.out).2.2 | (with_reducible refine Kd.C_alloc ?_ _) | (with_reducible refine Kd.C_drewN ?_ _) | (with_reducible refine Kd.C_drew ?_))); (case side7 => exact (Kd.R_reads' HO_10.out).2.1); rintro e w69 ⟨rfl, hb⟩; have n0_ := Aside0.mk (Kd.R_below (by (with_reducible repeat (first | apply Kd.R_alloc | apply Kd.R_drewN | apply Kd.R_drew)); exact HO_10.out) hb); have n1_ := Aside0.mk (Kd.R_below (by (with_reducible repeat (first | apply Kd.R_alloc | apply Kd.R_drewN | apply Kd.R_drew)); exact HO_226001.out) hb); have n2_ := Aside0.mk (blk_below (g := gb206) (o := .cells #[.slice (some ad213) l0_0.length c0_0, .slice A0_1 l0_1.length c0_1, .int .i64 a0_2] 29 (0, 0)) (by (with_reducible repeat (first | refine blk_drewN ?_ _ | refine blk_drew ?_ | refine blk_alloc ?_ _)); exact BK206.out) hb); have n3_ := Aside0.mk (blk_below (g := gb225) (o := .cells #[.slice (some ad213) l0_0.length c0_0, .slice Ao66 x226001_2.length co66, .int .i64 a0_2] 29 (0, 0)) (by (with_reducible repeat (first | refine blk_drewN ?_ _ | refine blk_drew ?_ | refine blk_alloc ?_ _)); exact BK225.out) hb); have n4_ := Aside0.mk (below_step (by repeat (first | (with_reducible first | exact HB.out | apply below_alloc | apply pw_below_drewN | apply below_drew1 | refine below_set ?_ GE206.out | refine below_set ?_ GE225.out) | exact HB.out)) hb); clear HO_10; clear HO_226001; clear BK206; clear BK225; clear HB; have HO_10 := n0_; have HO_226001 := n1_; have BK206 := n2_; have BK225 := n3_; have HB := n4_; clear n0_ n1_ n2_ n3_ n4_; (try clear hb); (try clear hb2); (try clear hk); (try clear hi)))
             repeat (go_quiet (first | (go_at_call 16; (try simp only [i64_w, i32_w]); (with_reducible refine (lots_Worth.calls k2 _ _ l0_0 _ _ x226001_2 a0_2 _ _ l1 t229 t230 _ ?side1 ?side2 ?side3 ?side4 ?side5 ?side6 ?side7 A60.out).mono ?_); (case side1 => exact GlobOK.below HG.out (by repeat (first | (with_reducible first | exact HB.out | apply below_alloc | apply pw_below_drewN | apply below_drew1 | refine below_set ?_ GE206.out | refine below_set ?_ GE225.out) | exact HB.out))); (case side2 => repeat (first | exact (Kd.C_below HR0_0.out HB.out) | (with_reducible refine Kd.C_alloc ?_ _) | (with_reducible refine Kd.C_drewN ?_ _) | (with_reducible refine Kd.C_drew ?_))); (case side3 => exact HC0_0.out); (case side4 => repeat (first | exact (Kd.R_reads' HO_226001.out).2.2 | (with_reducible refine Kd.C_alloc ?_ _) | (with_reducible refine Kd.C_drewN ?_ _) | (with_reducible refine Kd.C_drew ?_))); (case side5 => exact (Kd.R_reads' HO_226001.out).2.1); (case side6 => repeat (first | exact (Kd.C_below HR1.out HB.out) | (with_reducible refine Kd.C_alloc ?_ _) | (with_reducible refine Kd.C_drewN ?_ _) | (with_reducible refine Kd.C_drew ?_))); (case side7 => exact HC1.out); rintro e w67 ⟨rfl, hb⟩; have n0_ := Aside0.mk (Kd.R_below (by (with_reducible repeat (first | apply Kd.R_alloc | apply Kd.R_drewN | apply Kd.R_drew)); exact HO_10.out) hb); have n1_ := Aside0.mk (Kd.R_below (by (with_reducible repeat (first | apply Kd.R_alloc | apply Kd.R_drewN | apply Kd.R_drew)); exact HO_226001.out) hb); have n2_ := Aside0.mk (blk_below (g := gb206) (o := .cells #[.slice (some ad213) l0_0.length c0_0, .slice A0_1 l0_1.length c0_1, .int .i64 a0_2] 29 (0, 0)) (by (with_reducible repeat (first | refine blk_drewN ?_ _ | refine blk_drew ?_ | refine blk_alloc ?_ _)); exact BK206.out) hb); have n3_ := Aside0.mk (blk_below (g := gb225) (o := .cells #[.slice (some ad213) l0_0.length c0_0, .slice Ao66 x226001_2.length co66, .int .i64 a0_2] 29 (0, 0)) (by (with_reducible repeat (first | refine blk_drewN ?_ _ | refine blk_drew ?_ | refine blk_alloc ?_ _)); exact BK225.out) hb); have n4_ := Aside0.mk (below_step (by repeat (first | (with_reducible first | exact HB.out | apply below_alloc | apply pw_below_drewN | apply below_drew1 | refine below_set ?_ GE206.out | refine below_set ?_ GE225.out) | exact HB.out)) hb); clear HO_10; clear HO_226001; clear BK206; clear BK225; clear HB; have HO_10 := n0_; have HO_226001 := n1_; have BK206 := n2_; have BK225 := n3_; have HB := n4_; clear n0_ n1_ n2_ n3_ n4_; (try clear hb); (try clear hb2); (try clear hk); (try clear hi); have hcz68_0 : w67.cell? ⟨gb225, 0, none⟩ = some (.slice (some ad213) l0_0.length c0_0) := (blk_cell BK225.out 0).trans rfl; have hcz68_1 : w67.cell? ⟨gb225, 1, none⟩ = some (.slice Ao66 x226001_2.length co66) := (blk_cell BK225.out 1).trans rfl; have hcz68_2 : w67.cell? ⟨gb225, 2, none⟩ = some (.int .i64 a0_2) := (blk_cell BK225.out 2).trans rfl; have hfz68_0 := blk_frozen BK225.out 0; have hfz68_1 := blk_frozen BK225.out 1; have hfz68_2 := blk_frozen BK225.out 2) | (go_at_call 16; (try simp only [i64_w, i32_w]); (with_reducible refine (lots_Worth.calls k2 _ _ l0_0 _ _ x226001_2 a0_2 _ _ y218 t231 t232 _ ?side1 ?side2 ?side3 ?side4 ?side5 ?side6 ?side7 A61.out).mono ?_); (case side1 => exact GlobOK.below HG.out (by repeat (first | (with_reducible first | exact HB.out | apply below_alloc | apply pw_below_drewN | apply below_drew1 | refine below_set ?_ GE206.out | refine below_set ?_ GE225.out) | exact HB.out))); (case side2 => repeat (first | exact (Kd.C_below HR0_0.out HB.out) | (with_reducible refine Kd.C_alloc ?_ _) | (with_reducible refine Kd.C_drewN ?_ _) | (with_reducible refine Kd.C_drew ?_))); (case side3 => exact HC0_0.out); (case side4 => repeat (first | exact (Kd.R_reads' HO_226001.out).2.2 | (with_reducible refine Kd.C_alloc ?_ _) | (with_reducible refine Kd.C_drewN ?_ _) | (with_reducible refine Kd.C_drew ?_))); (case side5 => exact (Kd.R_reads' HO_226001.out).2.1); (case side6 => repeat (first | exact (Kd.R_reads' HO_10.out).2.2 | (with_reducible refine Kd.C_alloc ?_ _) | (with_reducible refine Kd.C_drewN ?_ _) | (with_reducible refine Kd.C_drew ?_))); (case side7 => exact (Kd.R_reads' HO_10.out).2.1); rintro e w69 ⟨rfl, hb⟩; have n0_ := Aside0.mk (Kd.R_below (by (with_reducible repeat (first | apply Kd.R_alloc | apply Kd.R_drewN | apply Kd.R_drew)); exact HO_10.out) hb); have n1_ := Aside0.mk (Kd.R_below (by (with_reducible repeat (first | apply Kd.R_alloc | apply Kd.R_drewN | apply Kd.R_drew)); exact HO_226001.out) hb); have n2_ := Aside0.mk (blk_below (g := gb206) (o := .cells #[.slice (some ad213) l0_0.length c0_0, .slice A0_1 l0_1.length c0_1, .int .i64 a0_2] 29 (0, 0)) (by (with_reducible repeat (first | refine blk_drewN ?_ _ | refine blk_drew ?_ | refine blk_alloc ?_ _)); exact BK206.out) hb); have n3_ := Aside0.mk (blk_below (g := gb225) (o := .cells #[.slice (some ad213) l0_0.length c0_0, .slice Ao66 x226001_2.length co66, .int .i64 a0_2] 29 (0, 0)) (by (with_reducible repeat (first | refine blk_drewN ?_ _ | refine blk_drew ?_ | refine blk_alloc ?_ _)); exact BK225.out) hb); have n4_ := Aside0.mk (below_step (by repeat (first | (with_reducible first | exact HB.out | apply below_alloc | apply pw_below_drewN | apply below_drew1 | refine below_set ?_ GE206.out | refine below_set ?_ GE225.out) | exact HB.out)) hb); clear HO_10; clear HO_226001; clear BK206; clear BK225; clear HB; have HO_10 := n0_; have HO_226001 := n1_; have BK206 := n2_; have BK225 := n3_; have HB := n4_; clear n0_ n1_ n2_ n3_ n4_; (try clear hb); (try clear hb2); (try clear hk); (try clear hi))); go_upto_region 22 with (first | (go_at_call 16; (try simp only [i64_w, i32_w]); (with_reducible refine (lots_Worth.calls k2 _ _ l0_0 _ _ x226001_2 a0_2 _ _ l1 t229 t230 _ ?side1 ?side2 ?side3 ?side4 ?side5 ?side6 ?side7 A60.out).mono ?_); (case side1 => exact GlobOK.below HG.out (by repeat (first | (with_reducible first | exact HB.out | apply below_alloc | apply pw_below_drewN | apply below_drew1 | refine below_set ?_ GE206.out | refine below_set ?_ GE225.out) | exact HB.out))); (case side2 => repeat (first | exact (Kd.C_below HR0_0.out HB.out) | (with_reducible refine Kd.C_alloc ?_ _) | (with_reducible refine Kd.C_drewN ?_ _) | (with_reducible refine Kd.C_drew ?_))); (case side3 => exact HC0_0.out); (case side4 => repeat (first | exact (Kd.R_reads' HO_226001.out).2.2 | (with_reducible refine Kd.C_alloc ?_ _) | (with_reducible refine Kd.C_drewN ?_ _) | (with_reducible refine Kd.C_drew ?_))); (case side5 => exact (Kd.R_reads' HO_226001.out).2.1); (case side6 => repeat (first | exact (Kd.C_below HR1.out HB.out) | (with_reducible refine Kd.C_alloc ?_ _) | (with_reducible refine Kd.C_drewN ?_ _) | (with_reducible refine Kd.C_drew ?_))); (case side7 => exact HC1.out); rintro e w67 ⟨rfl, hb⟩; have n0_ := Aside0.mk (Kd.R_below (by (with_reducible repeat (first | apply Kd.R_alloc | apply Kd.R_drewN | apply Kd.R_drew)); exact HO_10.out) hb); have n1_ := Aside0.mk (Kd.R_below (by (with_reducible repeat (first | apply Kd.R_alloc | apply Kd.R_drewN | apply Kd.R_drew)); exact HO_226001.out) hb); have n2_ := Aside0.mk (blk_below (g := gb206) (o := .cells #[.slice (some ad213) l0_0.length c0_0, .slice A0_1 l0_1.length c0_1, .int .i64 a0_2] 29 (0, 0)) (by (with_reducible repeat (first | refine blk_drewN ?_ _ | refine blk_drew ?_ | refine blk_alloc ?_ _)); exact BK206.out) hb); have n3_ := Aside0.mk (blk_below (g := gb225) (o := .cells #[.slice (some ad213) l0_0.length c0_0, .slice Ao66 x226001_2.length co66, .int .i64 a0_2] 29 (0, 0)) (by (with_reducible repeat (first | refine blk_drewN ?_ _ | refine blk_drew ?_ | refine blk_alloc ?_ _)); exact BK225.out) hb); have n4_ := Aside0.mk (below_step (by repeat (first | (with_reducible first | exact HB.out | apply below_alloc | apply pw_below_drewN | apply below_drew1 | refine below_set ?_ GE206.out | refine below_set ?_ GE225.out) | exact HB.out)) hb); clear HO_10; clear HO_226001; clear BK206; clear BK225; clear HB; have HO_10 := n0_; have HO_226001 := n1_; have BK206 := n2_; have BK225 := n3_; have HB := n4_; clear n0_ n1_ n2_ n3_ n4_; (try clear hb); (try clear hb2); (try clear hk); (try clear hi); have hcz68_0 : w67.cell? ⟨gb225, 0, none⟩ = some (.slice (some ad213) l0_0.length c0_0) := (blk_cell BK225.out 0).trans rfl; have hcz68_1 : w67.cell? ⟨gb225, 1, none⟩ = some (.slice Ao66 x226001_2.length co66) := (blk_cell BK225.out 1).trans rfl; have hcz68_2 : w67.cell? ⟨gb225, 2, none⟩ = some (.int .i64 a0_2) := (blk_cell BK225.out 2).trans rfl; have hfz68_0 := blk_frozen BK225.out 0; have hfz68_1 := blk_frozen BK225.out 1; have hfz68_2 := blk_frozen BK225.out 2) | (go_at_call 16; (try simp only [i64_w, i32_w]); (with_reducible refine (lots_Worth.calls k2 _ _ l0_0 _ _ x226001_2 a0_2 _ _ y218 t231 t232 _ ?side1 ?side2 ?side3 ?side4 ?side5 ?side6 ?side7 A61.out).mono ?_); (case side1 => exact GlobOK.below HG.out (by repeat (first | (with_reducible first | exact HB.out | apply below_alloc | apply pw_below_drewN | apply below_drew1 | refine below_set ?_ GE206.out | refine below_set ?_ GE225.out) | exact HB.out))); (case side2 => repeat (first | exact (Kd.C_below HR0_0.out HB.out) | (with_reducible refine Kd.C_alloc ?_ _) | (with_reducible refine Kd.C_drewN ?_ _) | (with_reducible refine Kd.C_drew ?_))); (case side3 => exact HC0_0.out); (case side4 => repeat (first | exact (Kd.R_reads' HO_226001.out).2.2 | (with_reducible refine Kd.C_alloc ?_ _) | (with_reducible refine Kd.C_drewN ?_ _) | (with_reducible refine Kd.C_drew ?_))); (case side5 => exact (Kd.R_reads' HO_226001.out).2.1); (case side6 => repeat (first | exact (Kd.R_reads' HO_10.out).2.2 | (with_reducible refine Kd.C_alloc ?_ _) | (with_reducible refine Kd.C_drewN ?_ _) | (with_reducible refine Kd.C_drew ?_))); (case side7 => exact (Kd.R_reads' HO_10.out).2.1); rintro e w69 ⟨rfl, hb⟩; have n0_ := Aside0.mk (Kd.R_below (by (with_reducible repeat (first | apply Kd.R_alloc | apply Kd.R_drewN | apply Kd.R_drew)); exact HO_10.out) hb); have n1_ := Aside0.mk (Kd.R_below (by (with_reducible repeat (first | apply Kd.R_alloc | apply Kd.R_drewN | apply Kd.R_drew)); exact HO_226001.out) hb); have n2_ := Aside0.mk (blk_below (g := gb206) (o := .cells #[.slice (some ad213) l0_0.length c0_0, .slice A0_1 l0_1.length c0_1, .int .i64 a0_2] 29 (0, 0)) (by (with_reducible repeat (first | refine blk_drewN ?_ _ | refine blk_drew ?_ | refine blk_alloc ?_ _)); exact BK206.out) hb); have n3_ := Aside0.mk (blk_below (g := gb225) (o := .cells #[.slice (some ad213) l0_0.length c0_0, .slice Ao66 x226001_2.length co66, .int .i64 a0_2] 29 (0, 0)) (by (with_reducible repeat (first | refine blk_drewN ?_ _ | refine blk_drew ?_ | refine blk_alloc ?_ _)); exact BK225.out) hb); have n4_ := Aside0.mk (below_step (by repeat (first | (with_reducible first | exact HB.out | apply below_alloc | apply pw_below_drewN | apply below_drew1 | refine below_set ?_ GE206.out | refine below_set ?_ GE225.out) | exact HB.out)) hb); clear HO_10; clear HO_226001; clear BK206; clear BK225; clear HB; have HO_10 := n0_; have HO_226001 := n1_; have BK206 := n2_; have BK225 := n3_; have HB := n4_; clear n0_ n1_ n2_ n3_ n4_; (try clear hb); (try clear hb2); (try clear hk); (try clear hi))))
             (try simp only [Act.put, zc13a_q1, zc13a_q2, zc13a_q3])
             go_cut [6] (fun v6 wc => ∃ (kq : Nat) (x6_61 : Bool), v6 = .bool x6_61 ∧ Aside0 (pledgelaw18_LotsGrow.j2 kq x6_61 = some r) ∧ Aside0 (kq ≤ k2) ∧ Aside0 (Kd.R (Kd.int .i64) 2 wc w.heap.size (fun _ => True) (.slice Ao66 x226001_2.length co66) x226001_2) ∧ Aside0 (wc.heap[gb206]? = some (.cells #[(.slice (some ad213) l0_0.length c0_0), (.slice A0_1 l0_1.length c0_1), .int .i64 a0_2] 29 (0, 0))) ∧ Aside0 (wc.heap[gb225]? = some (.cells #[(.slice (some ad213) l0_0.length c0_0), (.slice Ao66 x226001_2.length co66), .int .i64 a0_2] 29 (0, 0))) ∧ Aside0 (Below w.heap.size w wc))
             case first =>
              have H := HC62.out
              clear HC62
              by_cases c70 : t220 = true
              ·
               subst c70
               have H1 : (if t219 ≥ t208 then (if 0 ≤ t211 then (if t211 < (l0_0.length : Int) then (if (wrap64 (t219 - t208)) ≤ ((rd_T25 l0_0 t211).f1) then (if (wrap64 (t223 - t221)) = ((rd_T25 l0_0 t211).f2) then (if t229 ≥ t208 then (if (wrap64 (t231 - t229)) = ((rd_T25 l0_0 t211).f1) then ((lots_Most.f k2 l0_0 l0_1 a0_2).bind fun t236 => (pledgelaw18_LotsGrow.j2 k2 (decide (t236 ≥ t219)))) else (pledgelaw18_LotsGrow.j2 k2 false)) else (pledgelaw18_LotsGrow.j2 k2 false)) else (pledgelaw18_LotsGrow.j2 k2 false)) else (pledgelaw18_LotsGrow.j2 k2 false)) else (none)) else (none)) else (pledgelaw18_LotsGrow.j2 k2 false)) = some r := by rw [if_pos rfl] at H; exact H
               clear H
               have H := H1
               clear H1
               by_cases c71 : t219 ≥ t208
               ·
                rw [if_pos c71] at H
                have c71b0 : decide (t208 ≤ t219) = true := decide_eq_true c71
                clear c71
                (first | rw [c71b0] | (simp only [i64_w, i32_w]; rw [c71b0]) | skip)
                by_cases c72 : 0 ≤ t211
                ·
                 rw [if_pos c72] at H
                 have c72b0 : decide (0 ≤ t211) = true := decide_eq_true c72
                 clear c72
                 by_cases c73 : t211 < (l0_0.length : Int)
                 ·
                  rw [if_pos c73] at H
                  have c73b0 : decide (t211 < (l0_0.length : Int)) = true := decide_eq_true c73
                  clear c73
                  by_cases c74 : (wrap64 (t219 - t208)) ≤ ((rd_T25 l0_0 t211).f1)
                  ·
                   rw [if_pos c74] at H
                   have c74b0 : decide ((wrap64 (t219 - t208)) ≤ ((rd_T25 l0_0 t211).f1)) = true := decide_eq_true c74
                   clear c74
                   by_cases c75 : (wrap64 (t223 - t221)) = ((rd_T25 l0_0 t211).f2)
                   ·
                    rw [if_pos c75] at H
                    have c75b0 : ((wrap64 (t223 - t221)) == ((rd_T25 l0_0 t211).f2)) = true := beq_iff_eq.mpr c75
                    have c75b1 : ((wrap64 (t223 - t221)) != ((rd_T25 l0_0 t211).f2)) = false := bne_eq_false_iff_eq.mpr c75
                    clear c75
                    by_cases c76 : t229 ≥ t208
                    ·
                     rw [if_pos c76] at H
                     have c76b0 : decide (t208 ≤ t229) = true := decide_eq_true c76
                     clear c76
                     by_cases c77 : (wrap64 (t231 - t229)) = ((rd_T25 l0_0 t211).f1)
                     ·
                      rw [if_pos c77] at H
                      have c77b0 : ((wrap64 (t231 - t229)) == ((rd_T25 l0_0 t211).f1)) = true := beq_iff_eq.mpr c77
                      have c77b1 : ((wrap64 (t231 - t229)) != ((rd_T25 l0_0 t211).f1)) = false := bne_eq_false_iff_eq.mpr c77
                      clear c77
                      replace H := Option.bind_eq_some_iff.mp H
                      obtain ⟨t236, A780, H⟩ := H
                      replace H : (pledgelaw18_LotsGrow.j2 k2 (decide (t236 ≥ t219))) = some r := H
                      have A78 := Aside0.mk A780
                      clear A780
                      have H' := Aside0.mk H
                      clear H
                      have hnb79 := NB206_225.out
                      have hnc79 := NB225_206.out
                      have hcz80_0 : w69.cell? ⟨gb206, 0, none⟩ = some (.slice (some ad213) l0_0.length c0_0) := (blk_cell BK206.out 0).trans rfl
                      have hcz80_1 : w69.cell? ⟨gb206, 1, none⟩ = some (.slice A0_1 l0_1.length c0_1) := (blk_cell BK206.out 1).trans rfl
                      have hcz80_2 : w69.cell? ⟨gb206, 2, none⟩ = some (.int .i64 a0_2) := (blk_cell BK206.out 2).trans rfl
                      have hfz80_0 := blk_frozen BK206.out 0
                      have hfz80_1 := blk_frozen BK206.out 1
                      have hfz80_2 := blk_frozen BK206.out 2
                      have p233 : 0 ≤ (t211 : Int) := of_decide_eq_true (by first | (with_reducible assumption) | assumption)
                      have q233 : t211 < (l0_0.length : Int) := of_decide_eq_true (by first | (with_reducible assumption) | assumption)
                      obtain ⟨ad233, e233, hx233_0, hx233_1, hx233_2, hx233_3⟩ := at_T25 HR0_0.out t211 p233 q233
                      obtain rfl : ad213 = ad233 := (by injection e233)
                      replace hx233_0 := (HB.out.cell (World.block_lt_of_cell? w _ hx233_0)).trans hx233_0
                      replace hx233_1 := (HB.out.cell (World.block_lt_of_cell? w _ hx233_1)).trans hx233_1
                      replace hx233_2 := (HB.out.cell (World.block_lt_of_cell? w _ hx233_2)).trans hx233_2
                      replace hx233_3 := (HB.out.cell (World.block_lt_of_cell? w _ hx233_3)).trans hx233_3
                      replace p233 := eq_true p233
                      replace q233 := eq_true q233
                      have p234 : 0 ≤ (t211 : Int) := of_decide_eq_true (by first | (with_reducible assumption) | assumption)
                      have q234 : t211 < (l0_0.length : Int) := of_decide_eq_true (by first | (with_reducible assumption) | assumption)
                      obtain ⟨ad234, e234, hx234_0, hx234_1, hx234_2, hx234_3⟩ := at_T25 HR0_0.out t211 p234 q234
                      obtain rfl : ad213 = ad234 := (by injection e234)
                      replace hx234_0 := (HB.out.cell (World.block_lt_of_cell? w _ hx234_0)).trans hx234_0
                      replace hx234_1 := (HB.out.cell (World.block_lt_of_cell? w _ hx234_1)).trans hx234_1
                      replace hx234_2 := (HB.out.cell (World.block_lt_of_cell? w _ hx234_2)).trans hx234_2
                      replace hx234_3 := (HB.out.cell (World.block_lt_of_cell? w _ hx234_3)).trans hx234_3
                      replace p234 := eq_true p234
                      replace q234 := eq_true q234
                      have p235 : 0 ≤ (t211 : Int) := of_decide_eq_true (by first | (with_reducible assumption) | assumption)
                      have q235 : t211 < (l0_0.length : Int) := of_decide_eq_true (by first | (with_reducible assumption) | assumption)
                      obtain ⟨ad235, e235, hx235_0, hx235_1, hx235_2, hx235_3⟩ := at_T25 HR0_0.out t211 p235 q235
                      obtain rfl : ad213 = ad235 := (by injection e235)
                      replace hx235_0 := (HB.out.cell (World.block_lt_of_cell? w _ hx235_0)).trans hx235_0
                      replace hx235_1 := (HB.out.cell (World.block_lt_of_cell? w _ hx235_1)).trans hx235_1
                      replace hx235_2 := (HB.out.cell (World.block_lt_of_cell? w _ hx235_2)).trans hx235_2
                      replace hx235_3 := (HB.out.cell (World.block_lt_of_cell? w _ hx235_3)).trans hx235_3
                      replace p235 := eq_true p235
                      replace q235 := eq_true q235
                      go_wp2_with (first | (go_at_call 13; (with_reducible refine (lots_Most.calls k2 _ _ l0_0 _ _ l0_1 a0_2 t236 _ ?side1 ?side2 ?side3 ?side4 ?side5 A78.out).mono ?_); (case side1 => exact GlobOK.below HG.out (by repeat (first | (with_reducible first | exact HB.out | apply below_alloc | apply pw_below_drewN | apply below_drew1 | refine below_set ?_ GE206.out | refine below_set ?_ GE225.out) | exact HB.out))); (case side2 => repeat (first | exact (Kd.C_below HR0_0.out HB.out) | (with_reducible refine Kd.C_alloc ?_ _) | (with_reducible refine Kd.C_drewN ?_ _) | (with_reducible refine Kd.C_drew ?_))); (case side3 => exact HC0_0.out); (case side4 => repeat (first | exact (Kd.C_below HR0_1.out HB.out) | (with_reducible refine Kd.C_alloc ?_ _) | (with_reducible refine Kd.C_drewN ?_ _) | (with_reducible refine Kd.C_drew ?_))); (case side5 => exact HC0_1.out); rintro e w81 ⟨rfl, hb⟩; have n0_ := Aside0.mk (Kd.R_below (by (with_reducible repeat (first | apply Kd.R_alloc | apply Kd.R_drewN | apply Kd.R_drew)); exact HO_10.out) hb); have n1_ := Aside0.mk (Kd.R_below (by (with_reducible repeat (first | apply Kd.R_alloc | apply Kd.R_drewN | apply Kd.R_drew)); exact HO_226001.out) hb); have n2_ := Aside0.mk (blk_below (g := gb206) (o := .cells #[.slice (some ad213) l0_0.length c0_0, .slice A0_1 l0_1.length c0_1, .int .i64 a0_2] 29 (0, 0)) (by (with_reducible repeat (first | refine blk_drewN ?_ _ | refine blk_drew ?_ | refine blk_alloc ?_ _)); exact BK206.out) hb); have n3_ := Aside0.mk (blk_below (g := gb225) (o := .cells #[.slice (some ad213) l0_0.length c0_0, .slice Ao66 x226001_2.length co66, .int .i64 a0_2] 29 (0, 0)) (by (with_reducible repeat (first | refine blk_drewN ?_ _ | refine blk_drew ?_ | refine blk_alloc ?_ _)); exact BK225.out) hb); have n4_ := Aside0.mk (below_step (by repeat (first | (with_reducible first | exact HB.out | apply below_alloc | apply pw_below_drewN | apply below_drew1 | refine below_set ?_ GE206.out | refine below_set ?_ GE225.out) | exact HB.out)) hb); clear HO_10; clear HO_226001; clear BK206; clear BK225; clear HB; have HO_10 := n0_; have HO_226001 := n1_; have BK206 := n2_; have BK225 := n3_; have HB := n4_; clear n0_ n1_ n2_ n3_ n4_; (try clear hb); (try clear hb2); (try clear hk); (try clear hi)))
                      repeat (go_quiet (first | (go_at_call 13; (try simp only [i64_w, i32_w]); (with_reducible refine (lots_Most.calls k2 _ _ l0_0 _ _ l0_1 a0_2 t236 _ ?side1 ?side2 ?side3 ?side4 ?side5 A78.out).mono ?_); (case side1 => exact GlobOK.below HG.out (by repeat (first | (with_reducible first | exact HB.out | apply below_alloc | apply pw_below_drewN | apply below_drew1 | refine below_set ?_ GE206.out | refine below_set ?_ GE225.out) | exact HB.out))); (case side2 => repeat (first | exact (Kd.C_below HR0_0.out HB.out) | (with_reducible refine Kd.C_alloc ?_ _) | (with_reducible refine Kd.C_drewN ?_ _) | (with_reducible refine Kd.C_drew ?_))); (case side3 => exact HC0_0.out); (case side4 => repeat (first | exact (Kd.C_below HR0_1.out HB.out) | (with_reducible refine Kd.C_alloc ?_ _) | (with_reducible refine Kd.C_drewN ?_ _) | (with_reducible refine Kd.C_drew ?_))); (case side5 => exact HC0_1.out); rintro e w81 ⟨rfl, hb⟩; have n0_ := Aside0.mk (Kd.R_below (by (with_reducible repeat (first | apply Kd.R_alloc | apply Kd.R_drewN | apply Kd.R_drew)); exact HO_10.out) hb); have n1_ := Aside0.mk (Kd.R_below (by (with_reducible repeat (first | apply Kd.R_alloc | apply Kd.R_drewN | apply Kd.R_drew)); exact HO_226001.out) hb); have n2_ := Aside0.mk (blk_below (g := gb206) (o := .cells #[.slice (some ad213) l0_0.length c0_0, .slice A0_1 l0_1.length c0_1, .int .i64 a0_2] 29 (0, 0)) (by (with_reducible repeat (first | refine blk_drewN ?_ _ | refine blk_drew ?_ | refine blk_alloc ?_ _)); exact BK206.out) hb); have n3_ := Aside0.mk (blk_below (g := gb225) (o := .cells #[.slice (some ad213) l0_0.length c0_0, .slice Ao66 x226001_2.length co66, .int .i64 a0_2] 29 (0, 0)) (by (with_reducible repeat (first | refine blk_drewN ?_ _ | refine blk_drew ?_ | refine blk_alloc ?_ _)); exact BK225.out) hb); have n4_ := Aside0.mk (below_step (by repeat (first | (with_reducible first | exact HB.out | apply below_alloc | apply pw_below_drewN | apply below_drew1 | refine below_set ?_ GE206.out | refine below_set ?_ GE225.out) | exact HB.out)) hb); clear HO_10; clear HO_226001; clear BK206; clear BK225; clear HB; have HO_10 := n0_; have HO_226001 := n1_; have BK206 := n2_; have BK225 := n3_; have HB := n4_; clear n0_ n1_ n2_ n3_ n4_; (try clear hb); (try clear hb2); (try clear hk); (try clear hi))); try go_wp2_with (first | (go_at_call 13; (try simp only [i64_w, i32_w]); (with_reducible refine (lots_Most.calls k2 _ _ l0_0 _ _ l0_1 a0_2 t236 _ ?side1 ?side2 ?side3 ?side4 ?side5 A78.out).mono ?_); (case side1 => exact GlobOK.below HG.out (by repeat (first | (with_reducible first | exact HB.out | apply below_alloc | apply pw_below_drewN | apply below_drew1 | refine below_set ?_ GE206.out | refine below_set ?_ GE225.out) | exact HB.out))); (case side2 => repeat (first | exact (Kd.C_below HR0_0.out HB.out) | (with_reducible refine Kd.C_alloc ?_ _) | (with_reducible refine Kd.C_drewN ?_ _) | (with_reducible refine Kd.C_drew ?_))); (case side3 => exact HC0_0.out); (case side4 => repeat (first | exact (Kd.C_below HR0_1.out HB.out) | (with_reducible refine Kd.C_alloc ?_ _) | (with_reducible refine Kd.C_drewN ?_ _) | (with_reducible refine Kd.C_drew ?_))); (case side5 => exact HC0_1.out); rintro e w81 ⟨rfl, hb⟩; have n0_ := Aside0.mk (Kd.R_below (by (with_reducible repeat (first | apply Kd.R_alloc | apply Kd.R_drewN | apply Kd.R_drew)); exact HO_10.out) hb); have n1_ := Aside0.mk (Kd.R_below (by (with_reducible repeat (first | apply Kd.R_alloc | apply Kd.R_drewN | apply Kd.R_drew)); exact HO_226001.out) hb); have n2_ := Aside0.mk (blk_below (g := gb206) (o := .cells #[.slice (some ad213) l0_0.length c0_0, .slice A0_1 l0_1.length c0_1, .int .i64 a0_2] 29 (0, 0)) (by (with_reducible repeat (first | refine blk_drewN ?_ _ | refine blk_drew ?_ | refine blk_alloc ?_ _)); exact BK206.out) hb); have n3_ := Aside0.mk (blk_below (g := gb225) (o := .cells #[.slice (some ad213) l0_0.length c0_0, .slice Ao66 x226001_2.length co66, .int .i64 a0_2] 29 (0, 0)) (by (with_reducible repeat (first | refine blk_drewN ?_ _ | refine blk_drew ?_ | refine blk_alloc ?_ _)); exact BK225.out) hb); have n4_ := Aside0.mk (below_step (by repeat (first | (with_reducible first | exact HB.out | apply below_alloc | apply pw_below_drewN | apply below_drew1 | refine below_set ?_ GE206.out | refine below_set ?_ GE225.out) | exact HB.out)) hb); clear HO_10; clear HO_226001; clear BK206; clear BK225; clear HB; have HO_10 := n0_; have HO_226001 := n1_; have BK206 := n2_; have BK225 := n3_; have HB := n4_; clear n0_ n1_ n2_ n3_ n4_; (try clear hb); (try clear hb2); (try clear hk); (try clear hi))))
                      go_meet
                      case rel => exact ⟨_, (decide (t236 ≥ t219)), (by first | rfl | (simp; done) | (simp [*]; done) | (simp [wrap64]; done) | (simp [wrap64]; omega)), H', ⟨by have := HJ6.out; have := HK2.out; first | omega | exact Nat.le_refl _⟩, ⟨by (try simp only [hl10_2]); (with_reducible repeat (first | apply Kd.R_alloc | apply Kd.R_drewN | apply Kd.R_drew)); exact HO_226001.out⟩, ⟨by (try simp only [hl10_2]); (with_reducible repeat (first | refine blk_drewN ?_ _ | refine blk_drew ?_ | refine blk_alloc ?_ _)); exact BK206.out⟩, ⟨by (try simp only [hl10_2]); (with_reducible repeat (first | refine blk_drewN ?_ _ | refine blk_drew ?_ | refine blk_alloc ?_ _)); exact BK225.out⟩, ⟨by repeat (first | (with_reducible first | exact HB.out | apply below_alloc | apply pw_below_drewN | apply below_drew1 | refine below_set ?_ GE206.out | refine below_set ?_ GE225.out) | exact HB.out)⟩⟩
                     ·
                      rw [if_neg c77] at H
                      have c77b0 : ((wrap64 (t231 - t229)) == ((rd_T25 l0_0 t211).f1)) = false := beq_eq_false_iff_ne.mpr c77
                      have c77b1 : ((wrap64 (t231 - t229)) != ((rd_T25 l0_0 t211).f1)) = true := bne_iff_ne.mpr c77
                      have H' := Aside0.mk H
                      clear H
                      have hnb82 := NB206_225.out
                      have hnc82 := NB225_206.out
                      have hcz83_0 : w69.cell? ⟨gb206, 0, none⟩ = some (.slice (some ad213) l0_0.length c0_0) := (blk_cell BK206.out 0).trans rfl
                      have hcz83_1 : w69.cell? ⟨gb206, 1, none⟩ = some (.slice A0_1 l0_1.length c0_1) := (blk_cell BK206.out 1).trans rfl
                      have hcz83_2 : w69.cell? ⟨gb206, 2, none⟩ = some (.int .i64 a0_2) := (blk_cell BK206.out 2).trans rfl
                      have hfz83_0 := blk_frozen BK206.out 0
                      have hfz83_1 := blk_frozen BK206.out 1
                      have hfz83_2 := blk_frozen BK206.out 2
                      have p233 : 0 ≤ (t211 : Int) := of_decide_eq_true (by first | (with_reducible assumption) | assumption)
                      have q233 : t211 < (l0_0.length : Int) := of_decide_eq_true (by first | (with_reducible assumption) | assumption)
                      obtain ⟨ad233, e233, hx233_0, hx233_1, hx233_2, hx233_3⟩ := at_T25 HR0_0.out t211 p233 q233
                      obtain rfl : ad213 = ad233 := (by injection e233)
                      replace hx233_0 := (HB.out.cell (World.block_lt_of_cell? w _ hx233_0)).trans hx233_0
                      replace hx233_1 := (HB.out.cell (World.block_lt_of_cell? w _ hx233_1)).trans hx233_1
                      replace hx233_2 := (HB.out.cell (World.block_lt_of_cell? w _ hx233_2)).trans hx233_2
                      replace hx233_3 := (HB.out.cell (World.block_lt_of_cell? w _ hx233_3)).trans hx233_3
                      replace p233 := eq_true p233
                      replace q233 := eq_true q233
                      have p234 : 0 ≤ (t211 : Int) := of_decide_eq_true (by first | (with_reducible assumption) | assumption)
                      have q234 : t211 < (l0_0.length : Int) := of_decide_eq_true (by first | (with_reducible assumption) | assumption)
                      obtain ⟨ad234, e234, hx234_0, hx234_1, hx234_2, hx234_3⟩ := at_T25 HR0_0.out t211 p234 q234
                      obtain rfl : ad213 = ad234 := (by injection e234)
                      replace hx234_0 := (HB.out.cell (World.block_lt_of_cell? w _ hx234_0)).trans hx234_0
                      replace hx234_1 := (HB.out.cell (World.block_lt_of_cell? w _ hx234_1)).trans hx234_1
                      replace hx234_2 := (HB.out.cell (World.block_lt_of_cell? w _ hx234_2)).trans hx234_2
                      replace hx234_3 := (HB.out.cell (World.block_lt_of_cell? w _ hx234_3)).trans hx234_3
                      replace p234 := eq_true p234
                      replace q234 := eq_true q234
                      have p235 : 0 ≤ (t211 : Int) := of_decide_eq_true (by first | (with_reducible assumption) | assumption)
                      have q235 : t211 < (l0_0.length : Int) := of_decide_eq_true (by first | (with_reducible assumption) | assumption)
                      obtain ⟨ad235, e235, hx235_0, hx235_1, hx235_2, hx235_3⟩ := at_T25 HR0_0.out t211 p235 q235
                      obtain rfl : ad213 = ad235 := (by injection e235)
                      replace hx235_0 := (HB.out.cell (World.block_lt_of_cell? w _ hx235_0)).trans hx235_0
                      replace hx235_1 := (HB.out.cell (World.block_lt_of_cell? w _ hx235_1)).trans hx235_1
                      replace hx235_2 := (HB.out.cell (World.block_lt_of_cell? w _ hx235_2)).trans hx235_2
                      replace hx235_3 := (HB.out.cell (World.block_lt_of_cell? w _ hx235_3)).trans hx235_3
                      replace p235 := eq_true p235
                      replace q235 := eq_true q235
                      go_wp2
                      repeat (go_quiet (fail); try go_wp2)
                      go_meet
                      case rel => exact ⟨_, (false), (by first | rfl | (simp; done) | (simp [*]; done) | (simp [wrap64]; done) | (simp [wrap64]; omega)), H', ⟨by have := HJ6.out; have := HK2.out; first | omega | exact Nat.le_refl _⟩, ⟨by (try simp only [hl10_2]); (with_reducible repeat (first | apply Kd.R_alloc | apply Kd.R_drewN | apply Kd.R_drew)); exact HO_226001.out⟩, ⟨by (try simp only [hl10_2]); (with_reducible repeat (first | refine blk_drewN ?_ _ | refine blk_drew ?_ | refine blk_alloc ?_ _)); exact BK206.out⟩, ⟨by (try simp only [hl10_2]); (with_reducible repeat (first | refine blk_drewN ?_ _ | refine blk_drew ?_ | refine blk_alloc ?_ _)); exact BK225.out⟩, ⟨by repeat (first | (with_reducible first | exact HB.out | apply below_alloc | apply pw_below_drewN | apply below_drew1 | refine below_set ?_ GE206.out | refine below_set ?_ GE225.out) | exact HB.out)⟩⟩
                    ·
                     rw [if_neg c76] at H
                     have c76b0 : decide (t208 ≤ t229) = false := decide_eq_false c76
                     clear c76
                     have H' := Aside0.mk H
                     clear H
                     have hnb84 := NB206_225.out
                     have hnc84 := NB225_206.out
                     have hcz85_0 : w69.cell? ⟨gb206, 0, none⟩ = some (.slice (some ad213) l0_0.length c0_0) := (blk_cell BK206.out 0).trans rfl
                     have hcz85_1 : w69.cell? ⟨gb206, 1, none⟩ = some (.slice A0_1 l0_1.length c0_1) := (blk_cell BK206.out 1).trans rfl
                     have hcz85_2 : w69.cell? ⟨gb206, 2, none⟩ = some (.int .i64 a0_2) := (blk_cell BK206.out 2).trans rfl
                     have hfz85_0 := blk_frozen BK206.out 0
                     have hfz85_1 := blk_frozen BK206.out 1
                     have hfz85_2 := blk_frozen BK206.out 2
                     have p233 : 0 ≤ (t211 : Int) := of_decide_eq_true (by first | (with_reducible assumption) | assumption)
                     have q233 : t211 < (l0_0.length : Int) := of_decide_eq_true (by first | (with_reducible assumption) | assumption)
                     obtain ⟨ad233, e233, hx233_0, hx233_1, hx233_2, hx233_3⟩ := at_T25 HR0_0.out t211 p233 q233
                     obtain rfl : ad213 = ad233 := (by injection e233)
                     replace hx233_0 := (HB.out.cell (World.block_lt_of_cell? w _ hx233_0)).trans hx233_0
                     replace hx233_1 := (HB.out.cell (World.block_lt_of_cell? w _ hx233_1)).trans hx233_1
                     replace hx233_2 := (HB.out.cell (World.block_lt_of_cell? w _ hx233_2)).trans hx233_2
                     replace hx233_3 := (HB.out.cell (World.block_lt_of_cell? w _ hx233_3)).trans hx233_3
                     replace p233 := eq_true p233
                     replace q233 := eq_true q233
                     have p234 : 0 ≤ (t211 : Int) := of_decide_eq_true (by first | (with_reducible assumption) | assumption)
                     have q234 : t211 < (l0_0.length : Int) := of_decide_eq_true (by first | (with_reducible assumption) | assumption)
                     obtain ⟨ad234, e234, hx234_0, hx234_1, hx234_2, hx234_3⟩ := at_T25 HR0_0.out t211 p234 q234
                     obtain rfl : ad213 = ad234 := (by injection e234)
                     replace hx234_0 := (HB.out.cell (World.block_lt_of_cell? w _ hx234_0)).trans hx234_0
                     replace hx234_1 := (HB.out.cell (World.block_lt_of_cell? w _ hx234_1)).trans hx234_1
                     replace hx234_2 := (HB.out.cell (World.block_lt_of_cell? w _ hx234_2)).trans hx234_2
                     replace hx234_3 := (HB.out.cell (World.block_lt_of_cell? w _ hx234_3)).trans hx234_3
                     replace p234 := eq_true p234
                     replace q234 := eq_true q234
                     go_wp2
                     repeat (go_quiet (fail); try go_wp2)
                     go_meet
                     case rel => exact ⟨_, (false), (by first | rfl | (simp; done) | (simp [*]; done) | (simp [wrap64]; done) | (simp [wrap64]; omega)), H', ⟨by have := HJ6.out; have := HK2.out; first | omega | exact Nat.le_refl _⟩, ⟨by (try simp only [hl10_2]); (with_reducible repeat (first | apply Kd.R_alloc | apply Kd.R_drewN | apply Kd.R_drew)); exact HO_226001.out⟩, ⟨by (try simp only [hl10_2]); (with_reducible repeat (first | refine blk_drewN ?_ _ | refine blk_drew ?_ | refine blk_alloc ?_ _)); exact BK206.out⟩, ⟨by (try simp only [hl10_2]); (with_reducible repeat (first | refine blk_drewN ?_ _ | refine blk_drew ?_ | refine blk_alloc ?_ _)); exact BK225.out⟩, ⟨by repeat (first | (with_reducible first | exact HB.out | apply below_alloc | apply pw_below_drewN | apply below_drew1 | refine below_set ?_ GE206.out | refine below_set ?_ GE225.out) | exact HB.out)⟩⟩
                   ·
                    rw [if_neg c75] at H
                    have c75b0 : ((wrap64 (t223 - t221)) == ((rd_T25 l0_0 t211).f2)) = false := beq_eq_false_iff_ne.mpr c75
                    have c75b1 : ((wrap64 (t223 - t221)) != ((rd_T25 l0_0 t211).f2)) = true := bne_iff_ne.mpr c75
                    have H' := Aside0.mk H
                    clear H
                    have hnb86 := NB206_225.out
                    have hnc86 := NB225_206.out
                    have hcz87_0 : w69.cell? ⟨gb206, 0, none⟩ = some (.slice (some ad213) l0_0.length c0_0) := (blk_cell BK206.out 0).trans rfl
                    have hcz87_1 : w69.cell? ⟨gb206, 1, none⟩ = some (.slice A0_1 l0_1.length c0_1) := (blk_cell BK206.out 1).trans rfl
                    have hcz87_2 : w69.cell? ⟨gb206, 2, none⟩ = some (.int .i64 a0_2) := (blk_cell BK206.out 2).trans rfl
                    have hfz87_0 := blk_frozen BK206.out 0
                    have hfz87_1 := blk_frozen BK206.out 1
                    have hfz87_2 := blk_frozen BK206.out 2
                    have p233 : 0 ≤ (t211 : Int) := of_decide_eq_true (by first | (with_reducible assumption) | assumption)
                    have q233 : t211 < (l0_0.length : Int) := of_decide_eq_true (by first | (with_reducible assumption) | assumption)
                    obtain ⟨ad233, e233, hx233_0, hx233_1, hx233_2, hx233_3⟩ := at_T25 HR0_0.out t211 p233 q233
                    obtain rfl : ad213 = ad233 := (by injection e233)
                    replace hx233_0 := (HB.out.cell (World.block_lt_of_cell? w _ hx233_0)).trans hx233_0
                    replace hx233_1 := (HB.out.cell (World.block_lt_of_cell? w _ hx233_1)).trans hx233_1
                    replace hx233_2 := (HB.out.cell (World.block_lt_of_cell? w _ hx233_2)).trans hx233_2
                    replace hx233_3 := (HB.out.cell (World.block_lt_of_cell? w _ hx233_3)).trans hx233_3
                    replace p233 := eq_true p233
                    replace q233 := eq_true q233
                    have p234 : 0 ≤ (t211 : Int) := of_decide_eq_true (by first | (with_reducible assumption) | assumption)
                    have q234 : t211 < (l0_0.length : Int) := of_decide_eq_true (by first | (with_reducible assumption) | assumption)
                    obtain ⟨ad234, e234, hx234_0, hx234_1, hx234_2, hx234_3⟩ := at_T25 HR0_0.out t211 p234 q234
                    obtain rfl : ad213 = ad234 := (by injection e234)
                    replace hx234_0 := (HB.out.cell (World.block_lt_of_cell? w _ hx234_0)).trans hx234_0
                    replace hx234_1 := (HB.out.cell (World.block_lt_of_cell? w _ hx234_1)).trans hx234_1
                    replace hx234_2 := (HB.out.cell (World.block_lt_of_cell? w _ hx234_2)).trans hx234_2
                    replace hx234_3 := (HB.out.cell (World.block_lt_of_cell? w _ hx234_3)).trans hx234_3
                    replace p234 := eq_true p234
                    replace q234 := eq_true q234
                    go_wp2
                    repeat (go_quiet (fail); try go_wp2)
                    go_meet
                    case rel => exact ⟨_, (false), (by first | rfl | (simp; done) | (simp [*]; done) | (simp [wrap64]; done) | (simp [wrap64]; omega)), H', ⟨by have := HJ6.out; have := HK2.out; first | omega | exact Nat.le_refl _⟩, ⟨by (try simp only [hl10_2]); (with_reducible repeat (first | apply Kd.R_alloc | apply Kd.R_drewN | apply Kd.R_drew)); exact HO_226001.out⟩, ⟨by (try simp only [hl10_2]); (with_reducible repeat (first | refine blk_drewN ?_ _ | refine blk_drew ?_ | refine blk_alloc ?_ _)); exact BK206.out⟩, ⟨by (try simp only [hl10_2]); (with_reducible repeat (first | refine blk_drewN ?_ _ | refine blk_drew ?_ | refine blk_alloc ?_ _)); exact BK225.out⟩, ⟨by repeat (first | (with_reducible first | exact HB.out | apply below_alloc | apply pw_below_drewN | apply below_drew1 | refine below_set ?_ GE206.out | refine below_set ?_ GE225.out) | exact HB.out)⟩⟩
                  ·
                   rw [if_neg c74] at H
                   have c74b0 : decide ((wrap64 (t219 - t208)) ≤ ((rd_T25 l0_0 t211).f1)) = false := decide_eq_false c74
                   clear c74
                   have H' := Aside0.mk H
                   clear H
                   have hnb88 := NB206_225.out
                   have hnc88 := NB225_206.out
                   have hcz89_0 : w69.cell? ⟨gb206, 0, none⟩ = some (.slice (some ad213) l0_0.length c0_0) := (blk_cell BK206.out 0).trans rfl
                   have hcz89_1 : w69.cell? ⟨gb206, 1, none⟩ = some (.slice A0_1 l0_1.length c0_1) := (blk_cell BK206.out 1).trans rfl
                   have hcz89_2 : w69.cell? ⟨gb206, 2, none⟩ = some (.int .i64 a0_2) := (blk_cell BK206.out 2).trans rfl
                   have hfz89_0 := blk_frozen BK206.out 0
                   have hfz89_1 := blk_frozen BK206.out 1
                   have hfz89_2 := blk_frozen BK206.out 2
                   have p233 : 0 ≤ (t211 : Int) := of_decide_eq_true (by first | (with_reducible assumption) | assumption)
                   have q233 : t211 < (l0_0.length : Int) := of_decide_eq_true (by first | (with_reducible assumption) | assumption)
                   obtain ⟨ad233, e233, hx233_0, hx233_1, hx233_2, hx233_3⟩ := at_T25 HR0_0.out t211 p233 q233
                   obtain rfl : ad213 = ad233 := (by injection e233)
                   replace hx233_0 := (HB.out.cell (World.block_lt_of_cell? w _ hx233_0)).trans hx233_0
                   replace hx233_1 := (HB.out.cell (World.block_lt_of_cell? w _ hx233_1)).trans hx233_1
                   replace hx233_2 := (HB.out.cell (World.block_lt_of_cell? w _ hx233_2)).trans hx233_2
                   replace hx233_3 := (HB.out.cell (World.block_lt_of_cell? w _ hx233_3)).trans hx233_3
                   replace p233 := eq_true p233
                   replace q233 := eq_true q233
                   go_wp2
                   repeat (go_quiet (fail); try go_wp2)
                   go_meet
                   case rel => exact ⟨_, (false), (by first | rfl | (simp; done) | (simp [*]; done) | (simp [wrap64]; done) | (simp [wrap64]; omega)), H', ⟨by have := HJ6.out; have := HK2.out; first | omega | exact Nat.le_refl _⟩, ⟨by (try simp only [hl10_2]); (with_reducible repeat (first | apply Kd.R_alloc | apply Kd.R_drewN | apply Kd.R_drew)); exact HO_226001.out⟩, ⟨by (try simp only [hl10_2]); (with_reducible repeat (first | refine blk_drewN ?_ _ | refine blk_drew ?_ | refine blk_alloc ?_ _)); exact BK206.out⟩, ⟨by (try simp only [hl10_2]); (with_reducible repeat (first | refine blk_drewN ?_ _ | refine blk_drew ?_ | refine blk_alloc ?_ _)); exact BK225.out⟩, ⟨by repeat (first | (with_reducible first | exact HB.out | apply below_alloc | apply pw_below_drewN | apply below_drew1 | refine below_set ?_ GE206.out | refine below_set ?_ GE225.out) | exact HB.out)⟩⟩
                 ·
                  rw [if_neg c73] at H
                  exact absurd H (by simp)
                ·
                 rw [if_neg c72] at H
                 exact absurd H (by simp)
               ·
                rw [if_neg c71] at H
                have c71b0 : decide (t208 ≤ t219) = false := decide_eq_false c71
                clear c71
                (first | rw [c71b0] | (simp only [i64_w, i32_w]; rw [c71b0]) | skip)
                have H' := Aside0.mk H
                clear H
                go_wp2
                repeat (go_quiet (fail); try go_wp2)
                go_meet
                case rel => exact ⟨_, (false), (by first | rfl | (simp; done) | (simp [*]; done) | (simp [wrap64]; done) | (simp [wrap64]; omega)), H', ⟨by have := HJ6.out; have := HK2.out; first | omega | exact Nat.le_refl _⟩, ⟨by (try simp only [hl10_2]); (with_reducible repeat (first | apply Kd.R_alloc | apply Kd.R_drewN | apply Kd.R_drew)); exact HO_226001.out⟩, ⟨by (try simp only [hl10_2]); (with_reducible repeat (first | refine blk_drewN ?_ _ | refine blk_drew ?_ | refine blk_alloc ?_ _)); exact BK206.out⟩, ⟨by (try simp only [hl10_2]); (with_reducible repeat (first | refine blk_drewN ?_ _ | refine blk_drew ?_ | refine blk_alloc ?_ _)); exact BK225.out⟩, ⟨by repeat (first | (with_reducible first | exact HB.out | apply below_alloc | apply pw_below_drewN | apply below_drew1 | refine below_set ?_ GE206.out | refine below_set ?_ GE225.out) | exact HB.out)⟩⟩
              ·
               replace c70 := Bool.eq_false_iff.mpr c70
               subst c70
               have H1 : (pledgelaw18_LotsGrow.j2 k2 false) = some r := by rw [if_neg (show ¬ (false = true) by decide)] at H; exact H
               clear H
               have H := H1
               clear H1
               have H' := Aside0.mk H
               clear H
               go_wp2
               repeat (go_quiet (fail); try go_wp2)
               go_meet
               case rel => exact ⟨_, (false), (by first | rfl | (simp; done) | (simp [*]; done) | (simp [wrap64]; done) | (simp [wrap64]; omega)), H', ⟨by have := HJ6.out; have := HK2.out; first | omega | exact Nat.le_refl _⟩, ⟨by (try simp only [hl10_2]); (with_reducible repeat (first | apply Kd.R_alloc | apply Kd.R_drewN | apply Kd.R_drew)); exact HO_226001.out⟩, ⟨by (try simp only [hl10_2]); (with_reducible repeat (first | refine blk_drewN ?_ _ | refine blk_drew ?_ | refine blk_alloc ?_ _)); exact BK206.out⟩, ⟨by (try simp only [hl10_2]); (with_reducible repeat (first | refine blk_drewN ?_ _ | refine blk_drew ?_ | refine blk_alloc ?_ _)); exact BK225.out⟩, ⟨by repeat (first | (with_reducible first | exact HB.out | apply below_alloc | apply pw_below_drewN | apply below_drew1 | refine below_set ?_ GE206.out | refine below_set ?_ GE225.out) | exact HB.out)⟩⟩
             case rest =>
              clear HC62
              try clear c1
              try clear c2
              try clear p2
              try clear q2
              try clear hx2
              try clear c3
              try clear p3
              try clear q3
              try clear hx3
              try clear hf3
              try clear c5
              try clear c6
              try clear p6
              try clear c7
              try clear c8
              try clear c13
              try clear c14
              try clear c15
              try clear c15b0
              try clear c15b1
              try clear c15b2
              try clear p21
              try clear q21
              try clear hx21
              try clear p23
              try clear q23
              try clear hx23
              try clear c24
              try clear c26
              try clear c26b0
              try clear c27
              try clear c27b0
              try clear c28
              try clear c28b0
              try clear c29
              try clear c29b0
              try clear c29b1
              try clear c32
              try clear c32b0
              try clear p33
              try clear q33
              try clear hx33
              try clear hf33
              try clear c50
              try clear c52
              try clear c52b0
              try clear c53
              try clear c54
              try clear c63
              try clear p64
              try clear c70
              try clear c71
              try clear c71b0
              try clear c72
              try clear c72b0
              try clear c73
              try clear c73b0
              try clear c74
              try clear c74b0
              try clear c75
              try clear c75b0
              try clear c75b1
              try clear c76
              try clear c76b0
              try clear c77
              try clear c77b0
              try clear c77b1
              try clear c79
              try clear c82
              try clear c84
              try clear c86
              try clear c88
              try clear hcz10_0
              try clear hcz10_1
              try clear hcz10_2
              try clear hcz16_0
              try clear hcz16_1
              try clear hcz16_2
              try clear hcz18_0
              try clear hcz18_1
              try clear hcz18_2
              try clear hcz20_0
              try clear hcz20_1
              try clear hcz20_2
              try clear hcz22_0
              try clear hcz22_1
              try clear hcz22_2
              try clear hcz30_0
              try clear hcz30_1
              try clear hcz30_2
              try clear hcz37_0
              try clear hcz37_1
              try clear hcz37_2
              try clear hcz42_0
              try clear hcz42_1
              try clear hcz42_2
              try clear hcz44_0
              try clear hcz44_1
              try clear hcz44_2
              try clear hcz46_0
              try clear hcz46_1
              try clear hcz46_2
              try clear hcz48_0
              try clear hcz48_1
              try clear hcz48_2
              try clear hcz51_0
              try clear hcz51_1
              try clear hcz51_2
              try clear hcz55_0
              try clear hcz55_1
              try clear hcz55_2
              try clear hcz56_0
              try clear hcz56_1
              try clear hcz56_2
              try clear hcz59_0
              try clear hcz59_1
              try clear hcz59_2
              try clear hcz64_0
              try clear hcz64_1
              try clear hcz64_2
              try clear hcz65_0
              try clear hcz65_1
              try clear hcz65_2
              try clear hcz68_0
              try clear hcz68_1
              try clear hcz68_2
              try clear hcz80_0
              try clear hcz80_1
              try clear hcz80_2
              try clear hcz83_0
              try clear hcz83_1
              try clear hcz83_2
              try clear hcz85_0
              try clear hcz85_1
              try clear hcz85_2
              try clear hcz87_0
              try clear hcz87_1
              try clear hcz87_2
              try clear hcz89_0
              try clear hcz89_1
              try clear hcz89_2
              try clear hfz10_0
              try clear hfz10_1
              try clear hfz10_2
              try clear hfz16_0
              try clear hfz16_1
              try clear hfz16_2
              try clear hfz18_0
              try clear hfz18_1
              try clear hfz18_2
              try clear hfz20_0
              try clear hfz20_1
              try clear hfz20_2
              try clear hfz22_0
              try clear hfz22_1
              try clear hfz22_2
              try clear hfz30_0
              try clear hfz30_1
              try clear hfz30_2
              try clear hfz37_0
              try clear hfz37_1
              try clear hfz37_2
              try clear hfz42_0
              try clear hfz42_1
              try clear hfz42_2
              try clear hfz44_0
              try clear hfz44_1
              try clear hfz44_2
              try clear hfz46_0
              try clear hfz46_1
              try clear hfz46_2
              try clear hfz48_0
              try clear hfz48_1
              try clear hfz48_2
              try clear hfz51_0
              try clear hfz51_1
              try clear hfz51_2
              try clear hfz55_0
              try clear hfz55_1
              try clear hfz55_2
              try clear hfz56_0
              try clear hfz56_1
              try clear hfz56_2
              try clear hfz59_0
              try clear hfz59_1
              try clear hfz59_2
              try clear hfz64_0
              try clear hfz64_1
              try clear hfz64_2
              try clear hfz65_0
              try clear hfz65_1
              try clear hfz65_2
              try clear hfz68_0
              try clear hfz68_1
              try clear hfz68_2
              try clear hfz80_0
              try clear hfz80_1
              try clear hfz80_2
              try clear hfz83_0
              try clear hfz83_1
              try clear hfz83_2
              try clear hfz85_0
              try clear hfz85_1
              try clear hfz85_2
              try clear hfz87_0
              try clear hfz87_1
              try clear hfz87_2
              try clear hfz89_0
              try clear hfz89_1
              try clear hfz89_2
              try clear hx212_0
              try clear hx213_0
              try clear hx213_1
              try clear hx213_2
              try clear hx213_3
              try clear hx217_0
              try clear hx233_0
              try clear hx233_1
              try clear hx233_2
              try clear hx233_3
              try clear hx234_0
              try clear hx234_1
              try clear hx234_2
              try clear hx234_3
              try clear hx235_0
              try clear hx235_1
              try clear hx235_2
              try clear hx235_3
              try clear hx33_0
              try clear p2
              try clear p21
              try clear p212
              try clear p213
              try clear p217
              try clear p233
              try clear p234
              try clear p235
              try clear p3
              try clear p33
              try clear p6
              try clear q2
              try clear q21
              try clear q212
              try clear q213
              try clear q217
              try clear q233
              try clear q234
              try clear q235
              try clear q3
              try clear q33
              obtain ⟨kq, x6_61, rfl, HA, HJ61, HO_226001, BK206, BK225, HB⟩ := hcut
              cases kq with
              | zero => exact absurd HA.out (by simp [pledgelaw18_LotsGrow.j2])
              | succ kj61 =>
               have H := HA.out
               clear HA
               simp only [pledgelaw18_LotsGrow.j2] at H
               obtain rfl := Option.some.inj H
               go_wp2
               repeat (go_quiet (fail); try go_wp2)
               go_ret
               exact ⟨by first | rfl | (simp [errW_none, errW_some] <;> rfl) | (exfalso; simp_all; done) | (simp [*, errW_none, errW_some] <;> rfl), by repeat (first | (with_reducible first | exact HB.out | apply below_alloc | apply pw_below_drewN | apply below_drew1 | refine below_set ?_ GE206.out | refine below_set ?_ GE225.out) | exact HB.out)⟩
         ·
          rw [if_neg c32] at H
          exact absurd H (by simp)
       ·
        rw [if_neg c28] at H
        exact absurd H (by simp)
      ·
       rw [if_neg c27] at H
       exact absurd H (by simp)
     ·
      rw [if_neg c26] at H
      exact absurd H (by simp)
 ·
  replace c5 := Bool.eq_false_iff.mpr c5
  subst c5
  have H1 : (some false) = some r := by rw [if_neg (show ¬ (false = true) by decide)] at H; exact H
  clear H
  have H := H1
  clear H1
  obtain rfl := Option.some.inj H
  go_enter Tryd.func5, Tryd.ntmps5
  go_wp2_with (first | ((with_reducible refine gate_dst (N := 3) rfl ?_); (try (refine gate_guard (by rfl) ?_; dsimp only)); refine box_event ?hg (N := 3) ?hd (cs := #[.slice A0_0 l0_0.length c0_0, .slice A0_1 l0_1.length c0_1, .int .i64 a0_2]) (t := 29) ?hr ?_; (case hd => rfl); (case hg => rfl); (case hr => first | (go_simp; done) | (go_simp; rfl)); intro gb206 hg w90 hbox hb; have n0_ := Aside0.mk (below_step (by repeat (first | (with_reducible first | exact HB.out | apply below_alloc | apply pw_below_drewN | apply below_drew1) | exact HB.out)) hb); have n1_ := Aside0.mk (hbox); have n2_ := Aside0.mk ((by rw [hg]; exact (below_size (by repeat (first | (with_reducible first | exact HB.out | apply below_alloc | apply pw_below_drewN | apply below_drew1) | exact HB.out))) : w.heap.size ≤ gb206)); have n3_ := Aside0.mk ((by rw [hg]; exact (below_size (by repeat (first | (with_reducible first | exact HB.out | apply below_alloc | apply pw_below_drewN | apply below_drew1) | exact HB.out))) : w.heap.size ≤ gb206)); clear HB; have HB := n0_; have BK206 := n1_; have GW206 := n2_; have GE206 := n3_; clear n0_ n1_ n2_ n3_; clear hb hbox hg) | (go_at_call 8; (with_reducible refine (pledgelaw18_first.calls k  false _ ?side1 A4.out).mono ?_); (case side1 => exact GlobOK.below HG.out (by repeat (first | (with_reducible first | exact HB.out | apply below_alloc | apply pw_below_drewN | apply below_drew1 | refine below_set ?_ GE206.out) | exact HB.out))); rintro e w91 ⟨rfl, hb⟩; have n0_ := Aside0.mk (blk_below (g := gb206) (o := .cells #[.slice A0_0 l0_0.length c0_0, .slice A0_1 l0_1.length c0_1, .int .i64 a0_2] 29 (0, 0)) (by (with_reducible repeat (first | refine blk_drewN ?_ _ | refine blk_drew ?_ | refine blk_alloc ?_ _)); exact BK206.out) hb); have n1_ := Aside0.mk (below_step (by repeat (first | (with_reducible first | exact HB.out | apply below_alloc | apply pw_below_drewN | apply below_drew1 | refine below_set ?_ GE206.out) | exact HB.out)) hb); clear BK206; clear HB; have BK206 := n0_; have HB := n1_; clear n0_ n1_; (try clear hb); (try clear hb2); (try clear hk); (try clear hi)))
  repeat (go_quiet (first | ((with_reducible refine gate_dst (N := 3) rfl ?_); (try (refine gate_guard (by rfl) ?_; dsimp only)); refine box_event ?hg (N := 3) ?hd (cs := #[.slice A0_0 l0_0.length c0_0, .slice A0_1 l0_1.length c0_1, .int .i64 a0_2]) (t := 29) ?hr ?_; (case hd => rfl); (case hg => rfl); (case hr => first | (go_simp; done) | (go_simp; rfl)); intro gb206 hg w90 hbox hb; have n0_ := Aside0.mk (below_step (by repeat (first | (with_reducible first | exact HB.out | apply below_alloc | apply pw_below_drewN | apply below_drew1) | exact HB.out)) hb); have n1_ := Aside0.mk (hbox); have n2_ := Aside0.mk ((by rw [hg]; exact (below_size (by repeat (first | (with_reducible first | exact HB.out | apply below_alloc | apply pw_below_drewN | apply below_drew1) | exact HB.out))) : w.heap.size ≤ gb206)); have n3_ := Aside0.mk ((by rw [hg]; exact (below_size (by repeat (first | (with_reducible first | exact HB.out | apply below_alloc | apply pw_below_drewN | apply below_drew1) | exact HB.out))) : w.heap.size ≤ gb206)); clear HB; have HB := n0_; have BK206 := n1_; have GW206 := n2_; have GE206 := n3_; clear n0_ n1_ n2_ n3_; clear hb hbox hg) | (go_at_call 8; (try simp only [i64_w, i32_w]); (with_reducible refine (pledgelaw18_first.calls k  false _ ?side1 A4.out).mono ?_); (case side1 => exact GlobOK.below HG.out (by repeat (first | (with_reducible first | exact HB.out | apply below_alloc | apply pw_below_drewN | apply below_drew1 | refine below_set ?_ GE206.out) | exact HB.out))); rintro e w91 ⟨rfl, hb⟩; have n0_ := Aside0.mk (blk_below (g := gb206) (o := .cells #[.slice A0_0 l0_0.length c0_0, .slice A0_1 l0_1.length c0_1, .int .i64 a0_2] 29 (0, 0)) (by (with_reducible repeat (first | refine blk_drewN ?_ _ | refine blk_drew ?_ | refine blk_alloc ?_ _)); exact BK206.out) hb); have n1_ := Aside0.mk (below_step (by repeat (first | (with_reducible first | exact HB.out | apply below_alloc | apply pw_below_drewN | apply below_drew1 | refine below_set ?_ GE206.out) | exact HB.out)) hb); clear BK206; clear HB; have BK206 := n0_; have HB := n1_; clear n0_ n1_; (try clear hb); (try clear hb2); (try clear hk); (try clear hi))); try go_wp2_with (first | ((with_reducible refine gate_dst (N := 3) rfl ?_); (try (refine gate_guard (by rfl) ?_; dsimp only)); refine box_event ?hg (N := 3) ?hd (cs := #[.slice A0_0 l0_0.length c0_0, .slice A0_1 l0_1.length c0_1, .int .i64 a0_2]) (t := 29) ?hr ?_; (case hd => rfl); (case hg => rfl); (case hr => first | (go_simp; done) | (go_simp; rfl)); intro gb206 hg w90 hbox hb; have n0_ := Aside0.mk (below_step (by repeat (first | (with_reducible first | exact HB.out | apply below_alloc | apply pw_below_drewN | apply below_drew1) | exact HB.out)) hb); have n1_ := Aside0.mk (hbox); have n2_ := Aside0.mk ((by rw [hg]; exact (below_size (by repeat (first | (with_reducible first | exact HB.out | apply below_alloc | apply pw_below_drewN | apply below_drew1) | exact HB.out))) : w.heap.size ≤ gb206)); have n3_ := Aside0.mk ((by rw [hg]; exact (below_size (by repeat (first | (with_reducible first | exact HB.out | apply below_alloc | apply pw_below_drewN | apply below_drew1) | exact HB.out))) : w.heap.size ≤ gb206)); clear HB; have HB := n0_; have BK206 := n1_; have GW206 := n2_; have GE206 := n3_; clear n0_ n1_ n2_ n3_; clear hb hbox hg) | (go_at_call 8; (try simp only [i64_w, i32_w]); (with_reducible refine (pledgelaw18_first.calls k  false _ ?side1 A4.out).mono ?_); (case side1 => exact GlobOK.below HG.out (by repeat (first | (with_reducible first | exact HB.out | apply below_alloc | apply pw_below_drewN | apply below_drew1 | refine below_set ?_ GE206.out) | exact HB.out))); rintro e w91 ⟨rfl, hb⟩; have n0_ := Aside0.mk (blk_below (g := gb206) (o := .cells #[.slice A0_0 l0_0.length c0_0, .slice A0_1 l0_1.length c0_1, .int .i64 a0_2] 29 (0, 0)) (by (with_reducible repeat (first | refine blk_drewN ?_ _ | refine blk_drew ?_ | refine blk_alloc ?_ _)); exact BK206.out) hb); have n1_ := Aside0.mk (below_step (by repeat (first | (with_reducible first | exact HB.out | apply below_alloc | apply pw_below_drewN | apply below_drew1 | refine below_set ?_ GE206.out) | exact HB.out)) hb); clear BK206; clear HB; have BK206 := n0_; have HB := n1_; clear n0_ n1_; (try clear hb); (try clear hb2); (try clear hk); (try clear hi))))
  go_ret
  exact ⟨by first | rfl | (simp [errW_none, errW_some] <;> rfl) | (exfalso; simp_all; done) | (simp [*, errW_none, errW_some] <;> rfl), by repeat (first | (with_reducible first | exact HB.out | apply below_alloc | apply pw_below_drewN | apply below_drew1 | refine below_set ?_ GE206.out) | exact HB.out)⟩

/-- The pure statement of pledgelaw18_LotsGrow: numbers and lists alone. -/
def pledgelaw18_LotsGrow.Pure : Prop := ∀ (l0_0 : List (S25)) (l0_1 : List Int) (a0_2 : Int) (l1 : List Int) (a2 : Int), (l0_0.length ≤ maxLen ∧ ∀ x ∈ l0_0, (Rng .i64 x.f0 ∧ Rng .i64 x.f1 ∧ Rng .i64 x.f2 ∧ Rng .i64 x.f3)) → (l0_1.length ≤ maxLen ∧ ∀ x ∈ l0_1, Rng .i64 x) → Rng .i64 a0_2 → l1.length * 8 ≤ 140737488351232 → (l1.length ≤ maxLen ∧ ∀ x ∈ l1, Rng .i64 x) → Rng .i64 a2 → ∃ k, pledgelaw18_LotsGrow.f k l0_0 l0_1 a0_2 l1 a2 = some true

end Go.Proofs.YtlalofmilhakjaaDoor.ELotsGrow
