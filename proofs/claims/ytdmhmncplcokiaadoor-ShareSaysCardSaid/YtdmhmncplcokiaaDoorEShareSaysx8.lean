/- The functions that the law comes to, as plain functions, and for each a proof that the Go code comes to just these answers. Written by a program of this claim. Conditions: each theorem bears its own. -/
import Derived.Test.YtdmhmncplcokiaaDoorEShareSaysx0
import Derived.Test.YtdmhmncplcokiaaDoorEShareSaysx6
import Derived.Test.YtdmhmncplcokiaaDoorEShareSaysx7
namespace Go.Proofs.YtdmhmncplcokiaaDoor.EShareSays
open Go.RowKit Go.Proofs.YtdmhmncplcokiaaDoorW.PrintWords Go.Proofs.YtdmhmncplcokiaaDoorW.PrintLast Go.Proofs.YtdmhmncplcokiaaDoorW.PrintMore Go.Proofs.YtdmhmncplcokiaaDoorW.PrintOpen
attribute [local go_sem] max2_int min2_int max_two min_two max_three min_three max_four min_four   -- for this text's walks alone
set_option linter.unusedVariables false
set_option linter.unusedSimpArgs false

/-! ### pledgeref10_Split: function 9 -/
mutual
def pledgeref10_Split.l0 : Nat → Int → List Int → Int → Bool → Int → Option (List Int × Int)
 | 0, _, _, _, _, _ => none
 | k + 1, x0, x1, x6, x7, x8 => if x8 < (x1.length : Int) then (if x7 = true then (if 0 ≤ x8 then ((pledgeref10_amount.f (rd x1 x8)).bind fun t188 => (pledgeref10_Split.l0 k x0 x1 x6 t188 (wrap64 (x8 + 1)))) else (none)) else (pledgeref10_Split.l0 k x0 x1 x6 false (wrap64 (x8 + 1)))) else (if x7 = true then (pledgeref10_Split.l1 k x0 x1 x6 0) else (some (([] : List Int), 103)))
def pledgeref10_Split.l1 : Nat → Int → List Int → Int → Int → Option (List Int × Int)
 | 0, _, _, _, _ => none
 | k + 1, x0, x1, x6, x9 => if x9 < (x1.length : Int) then (if 0 ≤ x9 then (pledgeref10_Split.l1 k x0 x1 (wrap64 (x6 + (rd x1 x9))) (wrap64 (x9 + 1))) else (none)) else (if x6 > 1000000000000000 then (some (([] : List Int), 104)) else (if x6 = 0 then (pledgeref10_Split.j2 k x0 x1 x6 (x0 != 0)) else (pledgeref10_Split.j2 k x0 x1 x6 false)))
def pledgeref10_Split.j2 : Nat → Int → List Int → Int → Bool → Option (List Int × Int)
 | 0, _, _, _, _ => none
 | k + 1, x0, x1, x6, x56 => if x56 = true then (some (([] : List Int), 106)) else (if 0 ≤ (x1.length : Int) then (if ((x1.length : Int) : Int).toNat ≤ 35184372088832 then ((some (List.replicate ((x1.length : Int) : Int).toNat 0 : List Int)).bind fun y190 => (if x6 = 0 then (some (y190, 0)) else (pledgeref10_Split.l2 k x0 x1 x6 y190 x0 0))) else (none)) else (none))
def pledgeref10_Split.l2 : Nat → Int → List Int → Int → List Int → Int → Int → Option (List Int × Int)
 | 0, _, _, _, _, _, _ => none
 | k + 1, x0, x1, x6, x10, x11, x12 => if x12 < (x1.length : Int) then (if 0 ≤ x12 then ((pledgeref10_Floor.f k x0 (rd x1 x12) x6).bind fun bt194 => (if x12 < (x10.length : Int) then ((some (x10.set (x12 : Int).toNat bt194.1 : List Int)).bind fun y196 => (pledgeref10_Split.l2 k x0 x1 x6 y196 (wrap64 (x11 - (rd y196 x12))) (wrap64 (x12 + 1)))) else (none))) else (none)) else (if 0 ≤ (x1.length : Int) then (if ((x1.length : Int) : Int).toNat ≤ 281474976710656 then (pledgeref10_Split.l3 k x0 x1 x6 x10 x11 (List.replicate ((x1.length : Int) : Int).toNat false)) else (none)) else (none))
def pledgeref10_Split.l3 : Nat → Int → List Int → Int → List Int → Int → List Bool → Option (List Int × Int)
 | 0, _, _, _, _, _, _ => none
 | k + 1, x0, x1, x6, x10, x11, x13 => if x11 > 0 then (pledgeref10_Split.l4 k x0 x1 x6 x10 x11 x13 (-1) 0) else (some (x10, 0))
def pledgeref10_Split.l4 : Nat → Int → List Int → Int → List Int → Int → List Bool → Int → Int → Option (List Int × Int)
 | 0, _, _, _, _, _, _, _, _ => none
 | k + 1, x0, x1, x6, x10, x11, x13, x14, x15 => if x15 < (x1.length : Int) then (if 0 ≤ x15 then (if x15 < (x13.length : Int) then (if rdOf false x13 x15 = true then (pledgeref10_Split.l4 k x0 x1 x6 x10 x11 x13 x14 (wrap64 (x15 + 1))) else (if x14 < 0 then (pledgeref10_Split.l4 k x0 x1 x6 x10 x11 x13 x15 (wrap64 (x15 + 1))) else (if x15 < (x10.length : Int) then (if 0 ≤ x14 then (if x14 < (x1.length : Int) then (if x14 < (x10.length : Int) then ((pledgeref10_above.f x0 (rd x1 x15) (rd x10 x15) x6 (rd x1 x14) (rd x10 x14)).bind fun t206 => (if t206 = true then (pledgeref10_Split.l4 k x0 x1 x6 x10 x11 x13 x15 (wrap64 (x15 + 1))) else (pledgeref10_Split.l4 k x0 x1 x6 x10 x11 x13 x14 (wrap64 (x15 + 1))))) else (none)) else (none)) else (none)) else (none)))) else (none)) else (none)) else (if 0 ≤ x14 then (if x14 < (x13.length : Int) then (if x14 < (x10.length : Int) then (pledgeref10_Split.l3 k x0 x1 x6 (x10.set (x14 : Int).toNat (wrap64 ((rd x10 x14) + 1))) (wrap64 (x11 - 1)) (x13.set (x14 : Int).toNat true)) else (none)) else (none)) else (none))
end
def pledgeref10_Split.f (k : Nat) (a0 : Int) (l1 : List Int) : Option (List Int × Int) := if (l1.length : Int) > 32 then (some (([] : List Int), 105)) else ((pledgeref10_amount.f a0).bind fun t186 => (pledgeref10_Split.l0 k a0 l1 0 t186 0))
theorem pledgeref10_Split.mono_l : ∀ k, (∀ y0 y1 y2 y3 y4, LeO (pledgeref10_Split.l0 k y0 y1 y2 y3 y4) (pledgeref10_Split.l0 (k + 1) y0 y1 y2 y3 y4)) ∧ (∀ y0 y1 y2 y3, LeO (pledgeref10_Split.l1 k y0 y1 y2 y3) (pledgeref10_Split.l1 (k + 1) y0 y1 y2 y3)) ∧ (∀ y0 y1 y2 y3, LeO (pledgeref10_Split.j2 k y0 y1 y2 y3) (pledgeref10_Split.j2 (k + 1) y0 y1 y2 y3)) ∧ (∀ y0 y1 y2 y3 y4 y5, LeO (pledgeref10_Split.l2 k y0 y1 y2 y3 y4 y5) (pledgeref10_Split.l2 (k + 1) y0 y1 y2 y3 y4 y5)) ∧ (∀ y0 y1 y2 y3 y4 y5, LeO (pledgeref10_Split.l3 k y0 y1 y2 y3 y4 y5) (pledgeref10_Split.l3 (k + 1) y0 y1 y2 y3 y4 y5)) ∧ (∀ y0 y1 y2 y3 y4 y5 y6 y7, LeO (pledgeref10_Split.l4 k y0 y1 y2 y3 y4 y5 y6 y7) (pledgeref10_Split.l4 (k + 1) y0 y1 y2 y3 y4 y5 y6 y7))
 | 0 => ⟨fun _ _ _ _ _ r h => by simp [pledgeref10_Split.l0] at h, fun _ _ _ _ r h => by simp [pledgeref10_Split.l1] at h, fun _ _ _ _ r h => by simp [pledgeref10_Split.j2] at h, fun _ _ _ _ _ _ r h => by simp [pledgeref10_Split.l2] at h, fun _ _ _ _ _ _ r h => by simp [pledgeref10_Split.l3] at h, fun _ _ _ _ _ _ _ _ r h => by simp [pledgeref10_Split.l4] at h⟩
 | k + 1 => by
  obtain ⟨ih0, ih1, ih2, ih3, ih4, ih5⟩ := pledgeref10_Split.mono_l k
  refine ⟨?_, ?_, ?_, ?_, ?_, ?_⟩
  ·
   intro y0 y1 y2 y3 y4
   unfold pledgeref10_Split.l0
   repeat' first
   | (with_reducible exact ih0 _ _ _ _ _)
   | (with_reducible exact ih1 _ _ _ _)
   | (with_reducible exact ih2 _ _ _ _)
   | (with_reducible exact ih3 _ _ _ _ _ _)
   | (with_reducible exact ih4 _ _ _ _ _ _)
   | (with_reducible exact ih5 _ _ _ _ _ _ _ _)
   | (with_reducible exact pledgeref10_Floor.mono _ _ _ _)
   | (with_reducible exact LeO.refl _)
   | (with_reducible exact LeO.none _)
   | (with_reducible refine LeO.ite ?_ ?_)
   | (with_reducible refine LeO.bind ?_ (fun _ => ?_))
   | exact ih0 _ _ _ _ _
   | exact ih1 _ _ _ _
   | exact ih2 _ _ _ _
   | exact ih3 _ _ _ _ _ _
   | exact ih4 _ _ _ _ _ _
   | exact ih5 _ _ _ _ _ _ _ _
   | exact pledgeref10_Floor.mono _ _ _ _
   | exact LeO.none _
   | refine LeO.ite ?_ ?_
   | refine LeO.bind ?_ (fun _ => ?_)
  ·
   intro y0 y1 y2 y3
   unfold pledgeref10_Split.l1
   repeat' first
   | (with_reducible exact ih0 _ _ _ _ _)
   | (with_reducible exact ih1 _ _ _ _)
   | (with_reducible exact ih2 _ _ _ _)
   | (with_reducible exact ih3 _ _ _ _ _ _)
   | (with_reducible exact ih4 _ _ _ _ _ _)
   | (with_reducible exact ih5 _ _ _ _ _ _ _ _)
   | (with_reducible exact pledgeref10_Floor.mono _ _ _ _)
   | (with_reducible exact LeO.refl _)
   | (with_reducible exact LeO.none _)
   | (with_reducible refine LeO.ite ?_ ?_)
   | (with_reducible refine LeO.bind ?_ (fun _ => ?_))
   | exact ih0 _ _ _ _ _
   | exact ih1 _ _ _ _
   | exact ih2 _ _ _ _
   | exact ih3 _ _ _ _ _ _
   | exact ih4 _ _ _ _ _ _
   | exact ih5 _ _ _ _ _ _ _ _
   | exact pledgeref10_Floor.mono _ _ _ _
   | exact LeO.none _
   | refine LeO.ite ?_ ?_
   | refine LeO.bind ?_ (fun _ => ?_)
  ·
   intro y0 y1 y2 y3
   unfold pledgeref10_Split.j2
   repeat' first
   | (with_reducible exact ih0 _ _ _ _ _)
   | (with_reducible exact ih1 _ _ _ _)
   | (with_reducible exact ih2 _ _ _ _)
   | (with_reducible exact ih3 _ _ _ _ _ _)
   | (with_reducible exact ih4 _ _ _ _ _ _)
   | (with_reducible exact ih5 _ _ _ _ _ _ _ _)
   | (with_reducible exact pledgeref10_Floor.mono _ _ _ _)
   | (with_reducible exact LeO.refl _)
   | (with_reducible exact LeO.none _)
   | (with_reducible refine LeO.ite ?_ ?_)
   | (with_reducible refine LeO.bind ?_ (fun _ => ?_))
   | exact ih0 _ _ _ _ _
   | exact ih1 _ _ _ _
   | exact ih2 _ _ _ _
   | exact ih3 _ _ _ _ _ _
   | exact ih4 _ _ _ _ _ _
   | exact ih5 _ _ _ _ _ _ _ _
   | exact pledgeref10_Floor.mono _ _ _ _
   | exact LeO.none _
   | refine LeO.ite ?_ ?_
   | refine LeO.bind ?_ (fun _ => ?_)
  ·
   intro y0 y1 y2 y3 y4 y5
   unfold pledgeref10_Split.l2
   repeat' first
   | (with_reducible exact ih0 _ _ _ _ _)
   | (with_reducible exact ih1 _ _ _ _)
   | (with_reducible exact ih2 _ _ _ _)
   | (with_reducible exact ih3 _ _ _ _ _ _)
   | (with_reducible exact ih4 _ _ _ _ _ _)
   | (with_reducible exact ih5 _ _ _ _ _ _ _ _)
   | (with_reducible exact pledgeref10_Floor.mono _ _ _ _)
   | (with_reducible exact LeO.refl _)
   | (with_reducible exact LeO.none _)
   | (with_reducible refine LeO.ite ?_ ?_)
   | (with_reducible refine LeO.bind ?_ (fun _ => ?_))
   | exact ih0 _ _ _ _ _
   | exact ih1 _ _ _ _
   | exact ih2 _ _ _ _
   | exact ih3 _ _ _ _ _ _
   | exact ih4 _ _ _ _ _ _
   | exact ih5 _ _ _ _ _ _ _ _
   | exact pledgeref10_Floor.mono _ _ _ _
   | exact LeO.none _
   | refine LeO.ite ?_ ?_
   | refine LeO.bind ?_ (fun _ => ?_)
  ·
   intro y0 y1 y2 y3 y4 y5
   unfold pledgeref10_Split.l3
   repeat' first
   | (with_reducible exact ih0 _ _ _ _ _)
   | (with_reducible exact ih1 _ _ _ _)
   | (with_reducible exact ih2 _ _ _ _)
   | (with_reducible exact ih3 _ _ _ _ _ _)
   | (with_reducible exact ih4 _ _ _ _ _ _)
   | (with_reducible exact ih5 _ _ _ _ _ _ _ _)
   | (with_reducible exact pledgeref10_Floor.mono _ _ _ _)
   | (with_reducible exact LeO.refl _)
   | (with_reducible exact LeO.none _)
   | (with_reducible refine LeO.ite ?_ ?_)
   | (with_reducible refine LeO.bind ?_ (fun _ => ?_))
   | exact ih0 _ _ _ _ _
   | exact ih1 _ _ _ _
   | exact ih2 _ _ _ _
   | exact ih3 _ _ _ _ _ _
   | exact ih4 _ _ _ _ _ _
   | exact ih5 _ _ _ _ _ _ _ _
   | exact pledgeref10_Floor.mono _ _ _ _
   | exact LeO.none _
   | refine LeO.ite ?_ ?_
   | refine LeO.bind ?_ (fun _ => ?_)
  ·
   intro y0 y1 y2 y3 y4 y5 y6 y7
   unfold pledgeref10_Split.l4
   repeat' first
   | (with_reducible exact ih0 _ _ _ _ _)
   | (with_reducible exact ih1 _ _ _ _)
   | (with_reducible exact ih2 _ _ _ _)
   | (with_reducible exact ih3 _ _ _ _ _ _)
   | (with_reducible exact ih4 _ _ _ _ _ _)
   | (with_reducible exact ih5 _ _ _ _ _ _ _ _)
   | (with_reducible exact pledgeref10_Floor.mono _ _ _ _)
   | (with_reducible exact LeO.refl _)
   | (with_reducible exact LeO.none _)
   | (with_reducible refine LeO.ite ?_ ?_)
   | (with_reducible refine LeO.bind ?_ (fun _ => ?_))
   | exact ih0 _ _ _ _ _
   | exact ih1 _ _ _ _
   | exact ih2 _ _ _ _
   | exact ih3 _ _ _ _ _ _
   | exact ih4 _ _ _ _ _ _
   | exact ih5 _ _ _ _ _ _ _ _
   | exact pledgeref10_Floor.mono _ _ _ _
   | exact LeO.none _
   | refine LeO.ite ?_ ?_
   | refine LeO.bind ?_ (fun _ => ?_)
theorem pledgeref10_Split.mono : ∀ a0 a1 k, LeO (pledgeref10_Split.f k a0 a1) (pledgeref10_Split.f (k + 1) a0 a1) := by
 intro a0 a1 k
 obtain ⟨ih0, ih1, ih2, ih3, ih4, ih5⟩ := pledgeref10_Split.mono_l k
 unfold pledgeref10_Split.f
 repeat' first
   | (with_reducible exact ih0 _ _ _ _ _)
   | (with_reducible exact ih1 _ _ _ _)
   | (with_reducible exact ih2 _ _ _ _)
   | (with_reducible exact ih3 _ _ _ _ _ _)
   | (with_reducible exact ih4 _ _ _ _ _ _)
   | (with_reducible exact ih5 _ _ _ _ _ _ _ _)
   | (with_reducible exact pledgeref10_Floor.mono _ _ _ _)
   | (with_reducible exact LeO.refl _)
   | (with_reducible exact LeO.none _)
   | (with_reducible refine LeO.ite ?_ ?_)
   | (with_reducible refine LeO.bind ?_ (fun _ => ?_))
   | exact ih0 _ _ _ _ _
   | exact ih1 _ _ _ _
   | exact ih2 _ _ _ _
   | exact ih3 _ _ _ _ _ _
   | exact ih4 _ _ _ _ _ _
   | exact ih5 _ _ _ _ _ _ _ _
   | exact pledgeref10_Floor.mono _ _ _ _
   | exact LeO.none _
   | refine LeO.ite ?_ ?_
   | refine LeO.bind ?_ (fun _ => ?_)
def pledgeref10_Split.T35 : Bool × List (List Nat × List Nat) := (true, [([], []), ([], []), ([0, 1], [0, 1]), ([2], [2]), ([3], [3]), ([4], [4]), ([5], [5]), ([6, 5], [5, 6]), ([7, 5, 5], [5, 7]), ([8], [8]), ([8], [8]), ([8], [8]), ([10, 11, 8], [8, 10, 11]), ([12, 8], [8, 12]), ([8], [8]), ([8], [8]), ([14, 15, 8], [8, 14, 15]), ([16, 8], [8, 16]), ([8], [8]), ([8], [8]), ([8], [8]), ([19, 20, 8], [8, 19, 20]), ([21, 8], [8, 21]), ([8], [8]), ([8], [8]), ([23, 24, 8], [8, 23, 24]), ([25, 8], [8, 25]), ([9, 13, 17, 18, 22, 26, 8, 8], [8, 9, 13, 17, 18, 22, 26]), ([8, 27, 5], [5, 8, 27]), ([5, 28], [5, 28])])
def pledgeref10_Split.B35 : List Nat := [0, 0, 3, 7, 15, 31, 63, 127, 255, 511, 511, 511, 3583, 7679, 511, 511, 49663, 115199, 511, 511, 511, 1573375, 3670527, 511, 511, 25166335, 58720767, 134217727, 268435455, 536870911]
theorem pledgeref10_Split.tab35 : rtab .any (opsOf Tryd.f9 35) = pledgeref10_Split.T35 := by kernel_rfl
theorem pledgeref10_Split.bits35 : waitsOk pledgeref10_Split.T35.2 pledgeref10_Split.B35 = true := by kernel_rfl
theorem z8f76_q1 {α : Type} {l : List α} {i : Nat} {a : α} : l.toArray.setIfInBounds i a = (l.set i a).toArray := List.setIfInBounds_toArray ..
theorem z8f76_q2 {α : Type} {x : α} {l : List α} {a : α} : (x :: l).set 0 a = a :: l := rfl
theorem z8f76_q3 {α : Type} {x : α} {l : List α} {n : Nat} {a : α} : (x :: l).set n.succ a = x :: l.set n a := rfl
theorem z8f76_u {P : Program} {ops : Array Oper} {Q : Exit → Act → World → Prop} {md : Region.Mode} {S : World → Prop} {ds : List Nat} {T : Bool × List (List Nat × List Nat)} (i N : Nat) (l' : Array Bool) (hT : Aside0 (rtab md ops = T)) {oi : Oper} {v : Value} {fuel : Nat} {l : Array Bool} {a : Act} {w : World} (hi : ops[i]? = some oi) (hN : oi.dst = some N) (hc : anyT T l.toList l'.toList i = true)
  (hQ : ∀ c a w, Q (.panic c) (a.put oi.dst v) w → Q (.panic c) a w) (hy : Yields P ops oi v a) {a' : Act} (ha : a.put (some N) v = a')
  (h : wpAnyLast P md ops Q S ds fuel l' a' w) : wpAnyLast P md ops Q S ds (fuel + 1) l a w := pure_ l' hi hN (any_of hT.out hc) hQ hy ha h
abbrev z8f76_m0 : Array Bool := (fun o i : Bool => #[o,o,o,o,o,o,o,o,o,o,o,o,o,o,o,o,o,o,o,o,o,o,o,o,o,o,o,o,o,o]) false true
abbrev z8f76_m1 : Array Bool := (fun o i : Bool => #[i,o,o,o,o,o,o,o,o,o,o,o,o,o,o,o,o,o,o,o,o,o,o,o,o,o,o,o,o,o]) false true
abbrev z8f76_m2 : Array Bool := (fun o i : Bool => #[i,i,o,o,o,o,o,o,o,o,o,o,o,o,o,o,o,o,o,o,o,o,o,o,o,o,o,o,o,o]) false true
abbrev z8f76_m3 : Array Bool := (fun o i : Bool => #[i,i,i,o,o,o,o,o,o,o,o,o,o,o,o,o,o,o,o,o,o,o,o,o,o,o,o,o,o,o]) false true
abbrev z8f76_m4 : Array Bool := (fun o i : Bool => #[i,i,i,i,o,o,o,o,o,o,o,o,o,o,o,o,o,o,o,o,o,o,o,o,o,o,o,o,o,o]) false true
abbrev z8f76_m5 : Array Bool := (fun o i : Bool => #[i,i,i,i,i,o,o,o,o,o,o,o,o,o,o,o,o,o,o,o,o,o,o,o,o,o,o,o,o,o]) false true
abbrev z8f76_m6 : Array Bool := (fun o i : Bool => #[i,i,i,i,i,i,o,o,o,o,o,o,o,o,o,o,o,o,o,o,o,o,o,o,o,o,o,o,o,o]) false true
abbrev z8f76_m7 : Array Bool := (fun o i : Bool => #[i,i,i,i,i,i,i,o,o,o,o,o,o,o,o,o,o,o,o,o,o,o,o,o,o,o,o,o,o,o]) false true
abbrev z8f76_m8 : Array Bool := (fun o i : Bool => #[i,i,i,i,i,i,i,i,o,o,o,o,o,o,o,o,o,o,o,o,o,o,o,o,o,o,o,o,o,o]) false true
abbrev z8f76_m9 : Array Bool := (fun o i : Bool => #[i,i,i,i,i,i,i,i,i,o,o,o,o,o,o,o,o,o,o,o,o,o,o,o,o,o,o,o,o,o]) false true
abbrev z8f76_m10 : Array Bool := (fun o i : Bool => #[i,i,i,i,i,i,i,i,i,i,o,o,o,o,o,o,o,o,o,o,o,o,o,o,o,o,o,o,o,o]) false true
abbrev z8f76_m11 : Array Bool := (fun o i : Bool => #[i,i,i,i,i,i,i,i,i,i,i,o,o,o,o,o,o,o,o,o,o,o,o,o,o,o,o,o,o,o]) false true
abbrev z8f76_m12 : Array Bool := (fun o i : Bool => #[i,i,i,i,i,i,i,i,i,i,i,i,o,o,o,o,o,o,o,o,o,o,o,o,o,o,o,o,o,o]) false true
abbrev z8f76_m13 : Array Bool := (fun o i : Bool => #[i,i,i,i,i,i,i,i,i,i,i,i,i,o,o,o,o,o,o,o,o,o,o,o,o,o,o,o,o,o]) false true
abbrev z8f76_m14 : Array Bool := (fun o i : Bool => #[i,i,i,i,i,i,i,i,i,i,i,i,i,i,o,o,o,o,o,o,o,o,o,o,o,o,o,o,o,o]) false true
abbrev z8f76_m15 : Array Bool := (fun o i : Bool => #[i,i,i,i,i,i,i,i,i,i,i,i,i,i,i,o,o,o,o,o,o,o,o,o,o,o,o,o,o,o]) false true
abbrev z8f76_m16 : Array Bool := (fun o i : Bool => #[i,i,i,i,i,i,i,i,i,i,i,i,i,i,i,i,o,o,o,o,o,o,o,o,o,o,o,o,o,o]) false true
abbrev z8f76_m17 : Array Bool := (fun o i : Bool => #[i,i,i,i,i,i,i,i,i,i,i,i,i,i,i,i,i,o,o,o,o,o,o,o,o,o,o,o,o,o]) false true
abbrev z8f76_m18 : Array Bool := (fun o i : Bool => #[i,i,i,i,i,i,i,i,i,i,i,i,i,i,i,i,i,i,o,o,o,o,o,o,o,o,o,o,o,o]) false true
abbrev z8f76_m19 : Array Bool := (fun o i : Bool => #[i,i,i,i,i,i,i,i,i,i,i,i,i,i,i,i,i,i,i,o,o,o,o,o,o,o,o,o,o,o]) false true
abbrev z8f76_m20 : Array Bool := (fun o i : Bool => #[i,i,i,i,i,i,i,i,i,i,i,i,i,i,i,i,i,i,i,i,o,o,o,o,o,o,o,o,o,o]) false true
abbrev z8f76_m21 : Array Bool := (fun o i : Bool => #[i,i,i,i,i,i,i,i,i,i,i,i,i,i,i,i,i,i,i,i,i,o,o,o,o,o,o,o,o,o]) false true
abbrev z8f76_m22 : Array Bool := (fun o i : Bool => #[i,i,i,i,i,i,i,i,i,i,i,i,i,i,i,i,i,i,i,i,i,i,o,o,o,o,o,o,o,o]) false true
abbrev z8f76_m23 : Array Bool := (fun o i : Bool => #[i,i,i,i,i,i,i,i,i,i,i,i,i,i,i,i,i,i,i,i,i,i,i,o,o,o,o,o,o,o]) false true
abbrev z8f76_m24 : Array Bool := (fun o i : Bool => #[i,i,i,i,i,i,i,i,i,i,i,i,i,i,i,i,i,i,i,i,i,i,i,i,o,o,o,o,o,o]) false true
abbrev z8f76_m25 : Array Bool := (fun o i : Bool => #[i,i,i,i,i,i,i,i,i,i,i,i,i,i,i,i,i,i,i,i,i,i,i,i,i,o,o,o,o,o]) false true
abbrev z8f76_m26 : Array Bool := (fun o i : Bool => #[i,i,i,i,i,i,i,i,i,i,i,i,i,i,i,i,i,i,i,i,i,i,i,i,i,i,o,o,o,o]) false true
abbrev z8f76_m27 : Array Bool := (fun o i : Bool => #[i,i,i,i,i,i,i,i,i,i,i,i,i,i,i,i,i,i,i,i,i,i,i,i,i,i,i,o,o,o]) false true
abbrev z8f76_m28 : Array Bool := (fun o i : Bool => #[i,i,i,i,i,i,i,i,i,i,i,i,i,i,i,i,i,i,i,i,i,i,i,i,i,i,i,i,o,o]) false true
abbrev z8f76_m29 : Array Bool := (fun o i : Bool => #[i,i,i,i,i,i,i,i,i,i,i,i,i,i,i,i,i,i,i,i,i,i,i,i,i,i,i,i,i,o]) false true
abbrev z8f76_m30 : Array Bool := (fun o i : Bool => #[i,i,i,i,i,i,i,i,i,i,i,i,i,i,i,i,i,i,i,i,i,i,i,i,i,i,i,i,i,i]) false true
abbrev z8f76_m31 : Array Bool := (fun o i : Bool => #[i,i,i,i,i,i,i,i,i,i,i,i,i,o,i,o,o,o,o,o,o,o,o,o,o,o,o,o,o,o]) false true
abbrev z8f76_m32 : Array Bool := (fun o i : Bool => #[i,i,i,i,i,i,i,i,i,i,i,i,i,o,i,i,o,o,o,o,o,o,o,o,o,o,o,o,o,o]) false true
abbrev z8f76_m33 : Array Bool := (fun o i : Bool => #[i,i,i,i,i,i,i,i,i,i,i,i,i,o,i,i,i,o,o,o,o,o,o,o,o,o,o,o,o,o]) false true
abbrev z8f76_m34 : Array Bool := (fun o i : Bool => #[i,i,i,i,i,i,i,i,i,i,i,i,i,o,i,i,i,o,i,o,o,o,o,o,o,o,o,o,o,o]) false true
abbrev z8f76_m35 : Array Bool := (fun o i : Bool => #[i,i,i,i,i,i,i,i,i,i,i,i,i,o,i,i,i,o,i,i,o,o,o,o,o,o,o,o,o,o]) false true
abbrev z8f76_m36 : Array Bool := (fun o i : Bool => #[i,i,i,i,i,i,i,i,i,i,i,i,i,o,i,i,i,o,i,i,i,o,o,o,o,o,o,o,o,o]) false true
abbrev z8f76_m37 : Array Bool := (fun o i : Bool => #[i,i,i,i,i,i,i,i,i,i,i,i,i,o,i,i,i,o,i,i,i,i,o,o,o,o,o,o,o,o]) false true
abbrev z8f76_m38 : Array Bool := (fun o i : Bool => #[i,i,i,i,i,i,i,i,i,i,i,i,i,o,i,i,i,o,i,i,i,i,o,i,o,o,o,o,o,o]) false true
abbrev z8f76_m39 : Array Bool := (fun o i : Bool => #[i,i,i,i,i,i,i,i,i,i,i,i,i,o,i,i,i,o,i,i,i,i,o,i,i,o,o,o,o,o]) false true
abbrev z8f76_m40 : Array Bool := (fun o i : Bool => #[i,i,i,i,i,i,i,i,i,i,i,i,i,o,i,i,i,o,i,i,i,i,o,i,i,i,o,o,o,o]) false true
abbrev z8f76_m41 : Array Bool := (fun o i : Bool => #[i,i,i,i,i,i,i,i,i,i,i,i,i,i,i,i,i,o,i,i,i,i,o,i,i,i,o,o,o,o]) false true
abbrev z8f76_m42 : Array Bool := (fun o i : Bool => #[i,i,i,i,i,i,i,i,i,i,i,i,i,i,i,i,i,i,i,i,i,i,o,i,i,i,o,o,o,o]) false true
set_option maxHeartbeats 8000000 in
set_option maxRecDepth 100000 in
theorem pledgeref10_Split.calls [Inhabited (Int → Addr)] (k : Nat) (a0 : Int) (A1 : Option Addr) (c1 : Nat) (l1 : List Int) (r1 : List Int) (r2 : Int) (w : World) (hr1 : Kd.C (Kd.int .i64) w A1 l1.length l1) (hc1 : l1.length ≤ c1) (h : pledgeref10_Split.f k a0 l1 = some (r1, r2)) :
  Calls Tryd.prog 9 #[.int .i64 a0, .slice A1 l1.length c1] w fun e w' => ∃ v0_ : Value, e = .returned (.tuple #[v0_, .int .i64 r2]) ∧ Kd.R (Kd.int .i64) 2 w' w.heap.size (fun _ => True) v0_ r1 ∧ Below w.heap.size w w' := by
 have HR1 := Aside0.mk hr1
 have HC1 := Aside0.mk hc1
 clear hr1 hc1
 have HB := Aside0.mk (Below.refl w.heap.size w)
 have H : (if (l1.length : Int) > 32 then (some (([] : List Int), 105)) else ((pledgeref10_amount.f a0).bind fun t186 => (pledgeref10_Split.l0 k a0 l1 0 t186 0))) = some (r1, r2) := h
 clear h
 by_cases c3 : (l1.length : Int) > 32
 ·
  rw [if_pos c3] at H
  have c3b0 : decide (32 < (l1.length : Int)) = true := decide_eq_true c3
  have c3b1 : decide (32 < l1.length) = true := decide_eq_true (by omega)
  clear c3
  simp only [Option.some.injEq, Prod.mk.injEq] at H
  obtain ⟨rfl, rfl⟩ := H
  go_enter Tryd.func9, Tryd.ntmps9
  go_wp2
  go_ret2
  exact ⟨_, by first | rfl | (simp [errW_none, errW_some] <;> rfl) | (exfalso; simp_all; done) | (simp [*, errW_none, errW_some] <;> rfl), by first | exact Kd.R_nil _ _ _ _ _ | exact Kd.N_nil _ _ _ _ _ | exact Kd.V_nil _ _ _ _ _ | exact Kd.Q_nil _ _ _ _ _ | exact Kd.S_nil _ _ _ _ _, by repeat (first | (with_reducible first | exact HB.out | apply below_alloc | apply pw_below_drewN | apply below_drew1) | exact HB.out)⟩
 ·
  rw [if_neg c3] at H
  have c3b0 : decide (32 < (l1.length : Int)) = false := decide_eq_false c3
  have c3b1 : decide (32 < l1.length) = false := decide_eq_false (by omega)
  clear c3
  replace H := Option.bind_eq_some_iff.mp H
  obtain ⟨t186, A40, H⟩ := H
  replace H : (pledgeref10_Split.l0 k a0 l1 0 t186 0) = some (r1, r2) := H
  have A4 := Aside0.mk A40
  clear A40
  have H' := Aside0.mk H
  clear H
  go_enter Tryd.func9, Tryd.ntmps9
  go_wp2_with (first | ((with_reducible refine gate_callee (f := 24) rfl ?_); refine goesL_ (some 20) rfl rfl Tryd.func24 (by kernel_rfl) rfl #[.int .i64 a0] rfl (by (try simp only [List.map_toArray, List.map_cons, List.map_nil]); first | done | rfl | (simp only [List.length_drop, List.length_take]; rfl)) ?_; (with_reducible refine (pledgeref10_amount.calls a0 t186 _ A4.out).mono ?_); rintro e w' ⟨rfl, ⟨nd, rfl⟩⟩; refine ⟨_, rfl, ?_⟩))
  go_loopg [7, 8] k (fun kq v7 v8 w' => ∃ (x7_1 : Bool) (x8_1 : Int), v7 = .bool x7_1 ∧ v8 = .int .i64 x8_1 ∧ Aside0 (pledgeref10_Split.l0 kq a0 l1 0 x7_1 x8_1 = some (r1, r2)) ∧ Aside0 (kq ≤ k) ∧ Aside0 (Below w.heap.size w w'))
  case atStart => exact ⟨(t186), (0), (by first | rfl | (simp; done) | (simp [*]; done) | (simp [wrap64]; done) | (simp [wrap64]; omega)), (by first | rfl | (simp; done) | (simp [*]; done) | (simp [wrap64]; done) | (simp [wrap64]; omega)), H', ⟨Nat.le_refl _⟩, ⟨by repeat (first | (with_reducible first | exact HB.out | apply below_alloc | apply pw_below_drewN | apply below_drew1) | exact HB.out)⟩⟩
  case round =>
   clear H'
   try clear c1
   try clear c2
   try clear p2
   try clear c3
   try clear c3b0
   try clear c3b1
   obtain ⟨x7_1, x8_1, rfl, rfl, HA, HK1, HB⟩ := hrel
   cases gk with
   | zero => exact absurd HA.out (by simp [pledgeref10_Split.l0])
   | succ k1 =>
    have H := HA.out
    clear HA
    simp only [pledgeref10_Split.l0] at H
    by_cases c5 : x8_1 < (l1.length : Int)
    ·
     rw [if_pos c5] at H
     have c5b0 : decide (x8_1 < (l1.length : Int)) = true := decide_eq_true c5
     clear c5
     by_cases c6 : x7_1 = true
     ·
      subst c6
      have H1 : (if 0 ≤ x8_1 then ((pledgeref10_amount.f (rd l1 x8_1)).bind fun t188 => (pledgeref10_Split.l0 k1 a0 l1 0 t188 (wrap64 (x8_1 + 1)))) else (none)) = some (r1, r2) := by rw [if_pos rfl] at H; exact H
      clear H
      have H := H1
      clear H1
      by_cases c7 : 0 ≤ x8_1
      ·
       rw [if_pos c7] at H
       have c7b0 : decide (0 ≤ x8_1) = true := decide_eq_true c7
       clear c7
       replace H := Option.bind_eq_some_iff.mp H
       obtain ⟨t188, A80, H⟩ := H
       replace H : (pledgeref10_Split.l0 k1 a0 l1 0 t188 (wrap64 (x8_1 + 1))) = some (r1, r2) := H
       have A8 := Aside0.mk A80
       clear A80
       have H' := Aside0.mk H
       clear H
       have p187 : 0 ≤ (x8_1 : Int) := of_decide_eq_true (by first | (with_reducible assumption) | assumption)
       have q187 : x8_1 < (l1.length : Int) := of_decide_eq_true (by first | (with_reducible assumption) | assumption)
       obtain ⟨ad187, e187, hx187_0⟩ := Kd.at_int HR1.out x8_1 p187 q187
       cases e187
       replace hx187_0 := (HB.out.cell (World.block_lt_of_cell? w _ hx187_0)).trans hx187_0
       replace p187 := eq_true p187
       replace q187 := eq_true q187
       go_wp2_with (first | (go_at_call 24; (with_reducible refine (pledgeref10_amount.calls (rd l1 x8_1) t188 _ A8.out).mono ?_); rintro e w' ⟨rfl, ⟨nd, rfl⟩⟩))
       go_roundg k1
       case measure => have := HK1.out; omega
       case rel => exact ⟨(t188), (wrap64 (x8_1 + 1)), (by first | rfl | (simp; done) | (simp [*]; done) | (simp [wrap64]; done) | (simp [wrap64]; omega)), (by first | rfl | (simp; done) | (simp [*]; done) | (simp [wrap64]; done) | (simp [wrap64]; omega)), H', ⟨by have := HK1.out; omega⟩, ⟨by repeat (first | (with_reducible first | exact HB.out | apply below_alloc | apply pw_below_drewN | apply below_drew1) | exact HB.out)⟩⟩
      ·
       rw [if_neg c7] at H
       exact absurd H (by simp)
     ·
      replace c6 := Bool.eq_false_iff.mpr c6
      subst c6
      have H1 : (pledgeref10_Split.l0 k1 a0 l1 0 false (wrap64 (x8_1 + 1))) = some (r1, r2) := by rw [if_neg (show ¬ (false = true) by decide)] at H; exact H
      clear H
      have H := H1
      clear H1
      have H' := Aside0.mk H
      clear H
      go_wp2
      go_roundg k1
      case measure => have := HK1.out; omega
      case rel => exact ⟨(false), (wrap64 (x8_1 + 1)), (by first | rfl | (simp; done) | (simp [*]; done) | (simp [wrap64]; done) | (simp [wrap64]; omega)), (by first | rfl | (simp; done) | (simp [*]; done) | (simp [wrap64]; done) | (simp [wrap64]; omega)), H', ⟨by have := HK1.out; omega⟩, ⟨by repeat (first | (with_reducible first | exact HB.out | apply below_alloc | apply pw_below_drewN | apply below_drew1) | exact HB.out)⟩⟩
    ·
     rw [if_neg c5] at H
     have c5b0 : decide (x8_1 < (l1.length : Int)) = false := decide_eq_false c5
     clear c5
     by_cases c9 : x7_1 = true
     ·
      subst c9
      have H1 : (pledgeref10_Split.l1 k1 a0 l1 0 0) = some (r1, r2) := by rw [if_pos rfl] at H; exact H
      clear H
      have H := H1
      clear H1
      have H' := Aside0.mk H
      clear H
      go_wp2
      go_loopg [6, 9] k1 (fun kq v6 v9 w' => ∃ (x6_2 : Int) (x9_2 : Int), v6 = .int .i64 x6_2 ∧ v9 = .int .i64 x9_2 ∧ Aside0 (pledgeref10_Split.l1 kq a0 l1 x6_2 x9_2 = some (r1, r2)) ∧ Aside0 (kq ≤ k1) ∧ Aside0 (Below w.heap.size w w'))
      case atStart => exact ⟨(0), (0), (by first | rfl | (simp; done) | (simp [*]; done) | (simp [wrap64]; done) | (simp [wrap64]; omega)), (by first | rfl | (simp; done) | (simp [*]; done) | (simp [wrap64]; done) | (simp [wrap64]; omega)), H', ⟨Nat.le_refl _⟩, ⟨by repeat (first | (with_reducible first | exact HB.out | apply below_alloc | apply pw_below_drewN | apply below_drew1) | exact HB.out)⟩⟩
      case round =>
       clear H'
       try clear c1
       try clear p1
       try clear q1
       try clear hx1
       try clear c2
       try clear p2
       try clear c3
       try clear c3b0
       try clear c3b1
       try clear c5
       try clear c5b0
       try clear c6
       try clear p6
       try clear c7
       try clear c7b0
       try clear c9
       try clear hx187_0
       try clear p187
       try clear p2
       try clear q187
       obtain ⟨x6_2, x9_2, rfl, rfl, HA, HK2, HB⟩ := hrel
       cases gk with
       | zero => exact absurd HA.out (by simp [pledgeref10_Split.l1])
       | succ k2 =>
        have H := HA.out
        clear HA
        simp only [pledgeref10_Split.l1] at H
        by_cases c10 : x9_2 < (l1.length : Int)
        ·
         rw [if_pos c10] at H
         have c10b0 : decide (x9_2 < (l1.length : Int)) = true := decide_eq_true c10
         clear c10
         by_cases c11 : 0 ≤ x9_2
         ·
          rw [if_pos c11] at H
          have c11b0 : decide (0 ≤ x9_2) = true := decide_eq_true c11
          clear c11
          have H' := Aside0.mk H
          clear H
          have p189 : 0 ≤ (x9_2 : Int) := of_decide_eq_true (by first | (with_reducible assumption) | assumption)
          have q189 : x9_2 < (l1.length : Int) := of_decide_eq_true (by first | (with_reducible assumption) | assumption)
          obtain ⟨ad189, e189, hx189_0⟩ := Kd.at_int HR1.out x9_2 p189 q189
          cases e189
          replace hx189_0 := (HB.out.cell (World.block_lt_of_cell? w _ hx189_0)).trans hx189_0
          replace p189 := eq_true p189
          replace q189 := eq_true q189
          go_wp2
          go_roundg k2
          case measure => have := HK1.out; have := HK2.out; omega
          case rel => exact ⟨(wrap64 (x6_2 + (rd l1 x9_2))), (wrap64 (x9_2 + 1)), (by first | rfl | (simp; done) | (simp [*]; done) | (simp [wrap64]; done) | (simp [wrap64]; omega)), (by first | rfl | (simp; done) | (simp [*]; done) | (simp [wrap64]; done) | (simp [wrap64]; omega)), H', ⟨by have := HK1.out; have := HK2.out; omega⟩, ⟨by repeat (first | (with_reducible first | exact HB.out | apply below_alloc | apply pw_below_drewN | apply below_drew1) | exact HB.out)⟩⟩
         ·
          rw [if_neg c11] at H
          exact absurd H (by simp)
        ·
         rw [if_neg c10] at H
         have c10b0 : decide (x9_2 < (l1.length : Int)) = false := decide_eq_false c10
         clear c10
         by_cases c12 : x6_2 > 1000000000000000
         ·
          rw [if_pos c12] at H
          have c12b0 : decide (1000000000000000 < x6_2) = true := decide_eq_true c12
          clear c12
          simp only [Option.some.injEq, Prod.mk.injEq] at H
          obtain ⟨rfl, rfl⟩ := H
          go_wp2
          go_ret2
          exact ⟨_, by first | rfl | (simp [errW_none, errW_some] <;> rfl) | (exfalso; simp_all; done) | (simp [*, errW_none, errW_some] <;> rfl), by first | exact Kd.R_nil _ _ _ _ _ | exact Kd.N_nil _ _ _ _ _ | exact Kd.V_nil _ _ _ _ _ | exact Kd.Q_nil _ _ _ _ _ | exact Kd.S_nil _ _ _ _ _, by repeat (first | (with_reducible first | exact HB.out | apply below_alloc | apply pw_below_drewN | apply below_drew1) | exact HB.out)⟩
         ·
          rw [if_neg c12] at H
          have c12b0 : decide (1000000000000000 < x6_2) = false := decide_eq_false c12
          clear c12
          have HC13 := Aside0.mk H
          clear H
          go_upto_region 17 with (fail)
          go_cut [56] (fun v56 wc => ∃ (kq : Nat) (x56_12 : Bool), v56 = .bool x56_12 ∧ Aside0 (pledgeref10_Split.j2 kq a0 l1 x6_2 x56_12 = some (r1, r2)) ∧ Aside0 (kq ≤ k2) ∧ Aside0 (Below w.heap.size w wc))
          case first =>
           have H := HC13.out
           clear HC13
           by_cases c14 : x6_2 = 0
           ·
            rw [if_pos c14] at H
            have c14b0 : (x6_2 == 0) = true := beq_iff_eq.mpr c14
            have c14b1 : (x6_2 != 0) = false := bne_eq_false_iff_eq.mpr c14
            clear c14
            (first | rw [c14b0] | (simp only [i64_w, i32_w]; rw [c14b0]) | skip)
            have H' := Aside0.mk H
            clear H
            go_wp2
            go_meet
            case rel => exact ⟨_, ((a0 != 0)), (by first | rfl | (simp; done) | (simp [*]; done) | (simp [wrap64]; done) | (simp [wrap64]; omega)), H', ⟨by have := HK1.out; have := HK2.out; first | omega | exact Nat.le_refl _⟩, ⟨by repeat (first | (with_reducible first | exact HB.out | apply below_alloc | apply pw_below_drewN | apply below_drew1) | exact HB.out)⟩⟩
           ·
            rw [if_neg c14] at H
            have c14b0 : (x6_2 == 0) = false := beq_eq_false_iff_ne.mpr c14
            have c14b1 : (x6_2 != 0) = true := bne_iff_ne.mpr c14
            (first | rw [c14b0] | (simp only [i64_w, i32_w]; rw [c14b0]) | skip)
            have H' := Aside0.mk H
            clear H
            go_wp2
            go_meet
            case rel => exact ⟨_, (false), (by first | rfl | (simp; done) | (simp [*]; done) | (simp [wrap64]; done) | (simp [wrap64]; omega)), H', ⟨by have := HK1.out; have := HK2.out; first | omega | exact Nat.le_refl _⟩, ⟨by repeat (first | (with_reducible first | exact HB.out | apply below_alloc | apply pw_below_drewN | apply below_drew1) | exact HB.out)⟩⟩
          case rest =>
           clear HC13
           try clear c1
           try clear p1
           try clear q1
           try clear hx1
           try clear c2
           try clear p2
           try clear c3
           try clear c3b0
           try clear c3b1
           try clear c5
           try clear c5b0
           try clear c6
           try clear p6
           try clear c7
           try clear c7b0
           try clear c9
           try clear c10
           try clear c10b0
           try clear c11
           try clear c11b0
           try clear c12
           try clear c12b0
           try clear c14
           try clear c14b0
           try clear c14b1
           try clear hx187_0
           try clear hx189_0
           try clear p1
           try clear p187
           try clear p189
           try clear p2
           try clear p6
           try clear q1
           try clear q187
           try clear q189
           obtain ⟨kq, x56_12, rfl, HA, HJ12, HB⟩ := hcut
           cases kq with
           | zero => exact absurd HA.out (by simp [pledgeref10_Split.j2])
           | succ kj12 =>
            have H := HA.out
            clear HA
            simp only [pledgeref10_Split.j2] at H
            by_cases c15 : x56_12 = true
            ·
             subst c15
             have H1 : (some (([] : List Int), 106)) = some (r1, r2) := by rw [if_pos rfl] at H; exact H
             clear H
             have H := H1
             clear H1
             simp only [Option.some.injEq, Prod.mk.injEq] at H
             obtain ⟨rfl, rfl⟩ := H
             go_wp2
             go_ret2
             exact ⟨_, by first | rfl | (simp [errW_none, errW_some] <;> rfl) | (exfalso; simp_all; done) | (simp [*, errW_none, errW_some] <;> rfl), by first | exact Kd.R_nil _ _ _ _ _ | exact Kd.N_nil _ _ _ _ _ | exact Kd.V_nil _ _ _ _ _ | exact Kd.Q_nil _ _ _ _ _ | exact Kd.S_nil _ _ _ _ _, by repeat (first | (with_reducible first | exact HB.out | apply below_alloc | apply pw_below_drewN | apply below_drew1) | exact HB.out)⟩
            ·
             replace c15 := Bool.eq_false_iff.mpr c15
             subst c15
             have H1 : (if 0 ≤ (l1.length : Int) then (if ((l1.length : Int) : Int).toNat ≤ 35184372088832 then ((some (List.replicate ((l1.length : Int) : Int).toNat 0 : List Int)).bind fun y190 => (if x6_2 = 0 then (some (y190, 0)) else (pledgeref10_Split.l2 kj12 a0 l1 x6_2 y190 a0 0))) else (none)) else (none)) = some (r1, r2) := by rw [if_neg (show ¬ (false = true) by decide)] at H; exact H
             clear H
             have H := H1
             clear H1
             by_cases c16 : 0 ≤ (l1.length : Int)
             ·
              rw [if_pos c16] at H
              have c16b0 := eq_true c16
              have c16b1 : decide (0 ≤ (l1.length : Int)) = true := decide_eq_true c16
              clear c16
              by_cases c17 : ((l1.length : Int) : Int).toNat ≤ 35184372088832
              ·
               rw [if_pos c17] at H
               have c17b0 := eq_true c17
               have c17b1 : decide (((l1.length : Int) : Int).toNat ≤ 35184372088832) = true := decide_eq_true c17
               clear c17
               obtain ⟨y190, hy190⟩ : ∃ y_ : List Int, y_ = (List.replicate ((l1.length : Int) : Int).toNat 0) := ⟨_, rfl⟩
               replace H : (if x6_2 = 0 then (some (y190, 0)) else (pledgeref10_Split.l2 kj12 a0 l1 x6_2 y190 a0 0)) = some (r1, r2) := by first | (rw [hy190]; with_reducible exact H) | (have H2_ := (Option.bind_some _ _).symm.trans H; rw [hy190]; with_reducible exact H2_) | (have H2_ := (Option.bind_some _ _).symm.trans H; with_reducible exact H2_) | with_reducible exact H | (rw [hy190]; exact H) | exact H
               have Ny190 := Aside0.mk hy190
               clear hy190
               by_cases c18 : x6_2 = 0
               ·
                rw [if_pos c18] at H
                have c18b0 : (x6_2 == 0) = true := beq_iff_eq.mpr c18
                have c18b1 : (x6_2 != 0) = false := bne_eq_false_iff_eq.mpr c18
                clear c18
                simp only [Option.some.injEq, Prod.mk.injEq] at H
                obtain ⟨rfl, rfl⟩ := H
                go_wp2_with (first | ((with_reducible refine gate_dst (N := 59) rfl ?_); refine Kd.R_make (Kd.int .i64) _ 2 rfl (N := 59) rfl 22 _ _ rfl (l1.length : Int) rfl rfl Tryd.underlying22 (.int .i64 0) 8 info2 rfl (by decide) (by omega) 0 (ok := fun _ => True) (okp := fun _ => True) rfl (fun _ hk => hk) trivial (of_decide_eq_true (by first | (with_reducible assumption) | assumption)) (Nat.le_trans (Nat.mul_le_mul_right _ (of_decide_eq_true (by first | (with_reducible assumption) | assumption) : (l1.length : Int).toNat ≤ 35184372088832)) (by omega)) (Below.refl _ _) (Nat.le_refl _) ?_; intro v191 w19 ho20 hb hg_ hnew_; clear hg_ hnew_; (first | rw [← Ny190.out] at ho20 | (simp only [Int.reduceToNat] at ho20; rw [← Ny190.out] at ho20)); have n0_ := Aside0.mk (Kd.R_lower ho20 (below_size (by repeat (first | (with_reducible first | exact HB.out | apply below_alloc | apply pw_below_drewN | apply below_drew1) | exact HB.out)))); have n1_ := Aside0.mk (below_step (by repeat (first | (with_reducible first | exact HB.out | apply below_alloc | apply pw_below_drewN | apply below_drew1) | exact HB.out)) hb); clear HB; have HO192 := n0_; have HB := n1_; clear n0_ n1_; clear hb ho20))
                go_ret2
                exact ⟨_, by first | rfl | (simp [errW_none, errW_some] <;> rfl) | (exfalso; simp_all; done) | (simp [*, errW_none, errW_some] <;> rfl), by (with_reducible repeat (first | apply Kd.R_alloc | apply Kd.R_drewN | apply Kd.R_drew)); exact HO192.out, by repeat (first | (with_reducible first | exact HB.out | apply below_alloc | apply pw_below_drewN | apply below_drew1) | exact HB.out)⟩
               ·
                rw [if_neg c18] at H
                have c18b0 : (x6_2 == 0) = false := beq_eq_false_iff_ne.mpr c18
                have c18b1 : (x6_2 != 0) = true := bne_iff_ne.mpr c18
                have H' := Aside0.mk H
                clear H
                go_wp2_with (first | ((with_reducible refine gate_dst (N := 59) rfl ?_); refine Kd.R_make (Kd.int .i64) _ 2 rfl (N := 59) rfl 22 _ _ rfl (l1.length : Int) rfl rfl Tryd.underlying22 (.int .i64 0) 8 info2 rfl (by decide) (by omega) 0 (ok := fun _ => True) (okp := fun _ => True) rfl (fun _ hk => hk) trivial (of_decide_eq_true (by first | (with_reducible assumption) | assumption)) (Nat.le_trans (Nat.mul_le_mul_right _ (of_decide_eq_true (by first | (with_reducible assumption) | assumption) : (l1.length : Int).toNat ≤ 35184372088832)) (by omega)) (Below.refl _ _) (Nat.le_refl _) ?_; intro v191 w21 ho22 hb hg_ hnew_; clear hg_ hnew_; (first | rw [← Ny190.out] at ho22 | (simp only [Int.reduceToNat] at ho22; rw [← Ny190.out] at ho22)); have n0_ := Aside0.mk (Kd.R_lower ho22 (below_size (by repeat (first | (with_reducible first | exact HB.out | apply below_alloc | apply pw_below_drewN | apply below_drew1) | exact HB.out)))); have n1_ := Aside0.mk (below_step (by repeat (first | (with_reducible first | exact HB.out | apply below_alloc | apply pw_below_drewN | apply below_drew1) | exact HB.out)) hb); clear HB; have HO192 := n0_; have HB := n1_; clear n0_ n1_; clear hb ho22))
                go_loopg [11, 12] kj12 (fun kq v11 v12 w' => ∃ (x10_4 : List Int) (x11_4 : Int) (x12_4 : Int), v11 = .int .i64 x11_4 ∧ v12 = .int .i64 x12_4 ∧ Aside0 (pledgeref10_Split.l2 kq a0 l1 x6_2 x10_4 x11_4 x12_4 = some (r1, r2)) ∧ Aside0 (kq ≤ kj12) ∧ Aside0 (Kd.R (Kd.int .i64) 2 w' w.heap.size (fun _ => True) v191 x10_4) ∧ Aside0 (Below w.heap.size w w'))
                case atStart => exact ⟨(y190), (a0), (0), (by first | rfl | (simp; done) | (simp [*]; done) | (simp [wrap64]; done) | (simp [wrap64]; omega)), (by first | rfl | (simp; done) | (simp [*]; done) | (simp [wrap64]; done) | (simp [wrap64]; omega)), H', ⟨Nat.le_refl _⟩, ⟨by (with_reducible repeat (first | apply Kd.R_alloc | apply Kd.R_drewN | apply Kd.R_drew)); exact HO192.out⟩, ⟨by repeat (first | (with_reducible first | exact HB.out | apply below_alloc | apply pw_below_drewN | apply below_drew1) | exact HB.out)⟩⟩
                case round =>
                 clear H'
                 try clear c1
                 try clear p1
                 try clear q1
                 try clear hx1
                 try clear c2
                 try clear p2
                 try clear c3
                 try clear c3b0
                 try clear c3b1
                 try clear c5
                 try clear c5b0
                 try clear c6
                 try clear p6
                 try clear c7
                 try clear c7b0
                 try clear c9
                 try clear c10
                 try clear c10b0
                 try clear c11
                 try clear c11b0
                 try clear c12
                 try clear c12b0
                 try clear c14
                 try clear c14b0
                 try clear c14b1
                 try clear c15
                 try clear c16
                 try clear c16b0
                 try clear c16b1
                 try clear c17
                 try clear c17b0
                 try clear c17b1
                 try clear c18
                 try clear c18b0
                 try clear c18b1
                 try clear p18
                 try clear q18
                 try clear hx18
                 try clear hx187_0
                 try clear hx189_0
                 try clear p1
                 try clear p187
                 try clear p189
                 try clear p2
                 try clear p6
                 try clear q1
                 try clear q187
                 try clear q189
                 obtain ⟨x10_4, x11_4, x12_4, rfl, rfl, HA, HK4, HO_10, HB⟩ := hrel
                 cases gk with
                 | zero => exact absurd HA.out (by simp [pledgeref10_Split.l2])
                 | succ k4 =>
                  have H := HA.out
                  clear HA
                  simp only [pledgeref10_Split.l2] at H
                  by_cases c23 : x12_4 < (l1.length : Int)
                  ·
                   rw [if_pos c23] at H
                   have c23b0 : decide (x12_4 < (l1.length : Int)) = true := decide_eq_true c23
                   clear c23
                   by_cases c24 : 0 ≤ x12_4
                   ·
                    rw [if_pos c24] at H
                    have c24b0 : decide (0 ≤ x12_4) = true := decide_eq_true c24
                    clear c24
                    replace H := Option.bind_eq_some_iff.mp H
                    obtain ⟨⟨t194, t195⟩, A250, H⟩ := H
                    replace H : (if x12_4 < (x10_4.length : Int) then ((some (x10_4.set (x12_4 : Int).toNat t194 : List Int)).bind fun y196 => (pledgeref10_Split.l2 k4 a0 l1 x6_2 y196 (wrap64 (x11_4 - (rd y196 x12_4))) (wrap64 (x12_4 + 1)))) else (none)) = some (r1, r2) := H
                    have A25 := Aside0.mk A250
                    clear A250
                    by_cases c26 : x12_4 < (x10_4.length : Int)
                    ·
                     rw [if_pos c26] at H
                     have c26b0 : decide (x12_4 < (x10_4.length : Int)) = true := decide_eq_true c26
                     clear c26
                     obtain ⟨y196, hy196⟩ : ∃ y_ : List Int, y_ = (x10_4.set (x12_4 : Int).toNat t194) := ⟨_, rfl⟩
                     replace H : (pledgeref10_Split.l2 k4 a0 l1 x6_2 y196 (wrap64 (x11_4 - (rd y196 x12_4))) (wrap64 (x12_4 + 1))) = some (r1, r2) := by first | (rw [hy196]; with_reducible exact H) | (have H2_ := (Option.bind_some _ _).symm.trans H; rw [hy196]; with_reducible exact H2_) | (have H2_ := (Option.bind_some _ _).symm.trans H; with_reducible exact H2_) | with_reducible exact H | (rw [hy196]; exact H) | exact H
                     have Ny196 := Aside0.mk hy196
                     clear hy196
                     have H' := Aside0.mk H
                     clear H
                     have p193 : 0 ≤ (x12_4 : Int) := of_decide_eq_true (by first | (with_reducible assumption) | assumption)
                     have q193 : x12_4 < (l1.length : Int) := of_decide_eq_true (by first | (with_reducible assumption) | assumption)
                     obtain ⟨ad193, e193, hx193_0⟩ := Kd.at_int HR1.out x12_4 p193 q193
                     cases e193
                     replace hx193_0 := (HB.out.cell (World.block_lt_of_cell? w _ hx193_0)).trans hx193_0
                     replace p193 := eq_true p193
                     replace q193 := eq_true q193
                     go_wp2_with (first | ((with_reducible refine gate_callee (f := 11) rfl ?_); refine goesL_ (some 79) rfl rfl Tryd.func11 (by kernel_rfl) rfl #[.int .i64 a0, .int .i64 (rd l1 x12_4), .int .i64 x6_2] rfl (by (try simp only [List.map_toArray, List.map_cons, List.map_nil]); first | done | rfl | (simp only [List.length_drop, List.length_take]; rfl)) ?_; (with_reducible refine (pledgeref10_Floor.calls k4 a0 (rd l1 x12_4) x6_2 t194 t195 _ A25.out).mono ?_); rintro e w' ⟨rfl, ⟨nd, rfl⟩⟩; refine ⟨_, rfl, ?_⟩; (try (rw [drewN_self wr]; generalize hq_ : World.drewN wr _ = wr; have n0_ : Aside0 (Kd.R (Kd.int .i64) 2 wr w.heap.size (fun _ => True) v191 x10_4) := ⟨by rw [← hq_]; exact (by (with_reducible repeat (first | apply Kd.R_alloc | apply Kd.R_drewN | apply Kd.R_drew)); exact HO_10.out)⟩; have n1_ : Aside0 (Below w.heap.size w wr) := ⟨by rw [← hq_]; exact (by repeat (first | (with_reducible first | exact HB.out | apply below_alloc | apply pw_below_drewN | apply below_drew1) | exact HB.out))⟩; clear HO_10 HB hq_; have HO_10 := n0_; have HB := n1_; clear n0_ n1_)); have p27 : 0 ≤ (x12_4 : Int) := of_decide_eq_true (by first | (with_reducible assumption) | assumption); have q27 : (x12_4 : Int) < ((x10_4.length : Int) : Int) := of_decide_eq_true (by first | (with_reducible assumption) | assumption); obtain ⟨go27, co27, eo27, gb27, gl27, cl27, HG27⟩ := Kd.R_form HO_10.out (by omega); (first | cases eo27 | (injection eo27 with ea_ en_ ec_; (first | subst ea_ | (injection ea_ with ea_; subst ea_)); subst ec_; clear en_)); have GB27 := Aside0.mk gb27; have GG27 := Aside0.mk HG27; clear gb27 gl27 HG27; obtain ⟨hx27_0, hf27_0⟩ := Kd.R_celln 0 HO_10.out (x12_4 : Int) p27 q27; replace p27 := eq_true p27; replace q27 := eq_true q27; obtain ⟨hy28_, hz28_⟩ := Kd.R_celln 0 HO_10.out (x12_4 : Int) (of_decide_eq_true (by first | (with_reducible assumption) | assumption)) (of_decide_eq_true (by first | (with_reducible assumption) | assumption)); have HP28 := Kd.R_putg HO_10.out (x12_4 : Int) t194) | ((with_reducible refine gate_store (t := 2) (p := 82) rfl ?_); refine store_event (t := 2) (p := 82) (v := ?vo_w29) (w1 := (wr.setCell ⟨go27, (x12_4 : Int).toNat, none⟩ (.int .i64 t194))) ?hg ?ho ?hn ?hr ?_; (case ho => rfl); (case hg => rfl); (case hn => rfl); (case hr => first | (go_simp; done) | (go_simp; rfl)); intro w29 hw; have hg : wr.grownBy w29 (some go27) := (by rw [hw]; exact HP28.2); have hp_ : Kd.R (Kd.int .i64) 2 w29 w.heap.size (fun _ => True) (.slice (some ⟨go27, 0, none⟩) x10_4.length co27) y196 := (by rw [hw, Ny196.out]; exact HP28.1); clear HP28; have n0_ := Aside0.mk (hp_); have n1_ := Aside0.mk ((by rw [hw]; exact below_set (HB.out) GB27.out : Below w.heap.size w w29)); clear HO_10; clear HB; have HO_10 := n0_; have HB := n1_; clear n0_ n1_; clear hg hw hp_; have p197 : 0 ≤ (x12_4 : Int) := of_decide_eq_true (by first | (with_reducible assumption) | assumption); have q197 : x12_4 < (y196.length : Int) := (by have h_ : (x12_4 : Int) < ((x10_4.length : Int) : Int) := of_decide_eq_true (by first | (with_reducible assumption) | assumption); first | (have e_ := (Kd.R_reads' HO_10.out).1; omega) | simpa only [Ny196.out, List.length_set] using h_); have ql197 : ((x12_4 : Int) < ((x10_4.length : Int) : Int)) = True := eq_true (of_decide_eq_true (by first | (with_reducible assumption) | assumption)); obtain ⟨ad197, e197, hx197_0⟩ := Kd.at_int (Kd.R_reads' HO_10.out).2.2 x12_4 p197 q197; obtain rfl : (⟨go27, 0, none⟩ : Addr) = ad197 := (by injection e197); (first | simp only [add_plain] at hx197_0 | simp only [add_at] at hx197_0 | simp only [Addr.add, Nat.zero_add] at hx197_0 | skip); replace p197 := eq_true p197; replace q197 := eq_true q197))
                     go_roundg k4
                     case measure => have := HK1.out; have := HK2.out; have := HJ12.out; have := HK4.out; omega
                     case rel => exact ⟨(y196), (wrap64 (x11_4 - (rd y196 x12_4))), (wrap64 (x12_4 + 1)), (by first | rfl | (simp; done) | (simp [*]; done) | (simp [wrap64]; done) | (simp [wrap64]; omega)), (by first | rfl | (simp; done) | (simp [*]; done) | (simp [wrap64]; done) | (simp [wrap64]; omega)), H', ⟨by have := HK1.out; have := HK2.out; have := HJ12.out; have := HK4.out; omega⟩, ⟨by (with_reducible repeat (first | apply Kd.R_alloc | apply Kd.R_drewN | apply Kd.R_drew)); exact HO_10.out⟩, ⟨by repeat (first | (with_reducible first | exact HB.out | apply below_alloc | apply pw_below_drewN | apply below_drew1) | exact HB.out)⟩⟩
                    ·
                     rw [if_neg c26] at H
                     exact absurd H (by simp)
                   ·
                    rw [if_neg c24] at H
                    exact absurd H (by simp)
                  ·
                   rw [if_neg c23] at H
                   have c23b0 : decide (x12_4 < (l1.length : Int)) = false := decide_eq_false c23
                   clear c23
                   by_cases c30 : 0 ≤ (l1.length : Int)
                   ·
                    rw [if_pos c30] at H
                    have c30b0 := eq_true c30
                    have c30b1 : decide (0 ≤ (l1.length : Int)) = true := decide_eq_true c30
                    clear c30
                    by_cases c31 : ((l1.length : Int) : Int).toNat ≤ 281474976710656
                    ·
                     rw [if_pos c31] at H
                     have c31b0 := eq_true c31
                     have c31b1 : decide (((l1.length : Int) : Int).toNat ≤ 281474976710656) = true := decide_eq_true c31
                     clear c31
                     obtain ⟨y198, hy198⟩ : ∃ y_ : List Bool, y_ = (List.replicate ((l1.length : Int) : Int).toNat false) := ⟨_, rfl⟩
                     replace H : (pledgeref10_Split.l3 k4 a0 l1 x6_2 x10_4 x11_4 y198) = some (r1, r2) := by first | (rw [hy198]; with_reducible exact H) | (have H2_ := (Option.bind_some _ _).symm.trans H; rw [hy198]; with_reducible exact H2_) | (have H2_ := (Option.bind_some _ _).symm.trans H; with_reducible exact H2_) | with_reducible exact H | (rw [hy198]; exact H) | exact H
                     have Ny198 := Aside0.mk hy198
                     clear hy198
                     have H' := Aside0.mk H
                     clear H
                     go_wp2_with (first | ((with_reducible refine gate_dst (N := 91) rfl ?_); refine Kd.R_make Kd.bool _ 4 rfl (N := 91) rfl 50 _ _ rfl (l1.length : Int) rfl rfl Tryd.underlying50 (.bool false) 1 info4 rfl (by decide) (by omega) false (ok := fun _ => True) (okp := fun _ => True) rfl (fun _ hk => hk) trivial (of_decide_eq_true (by first | (with_reducible assumption) | assumption)) (Nat.le_trans (Nat.mul_le_mul_right _ (of_decide_eq_true (by first | (with_reducible assumption) | assumption) : (l1.length : Int).toNat ≤ 281474976710656)) (by omega)) (Below.refl _ _) (Nat.le_refl _) ?_; intro v199 w32 ho33 hb hg_ hnew_; clear hg_ hnew_; (first | rw [← Ny198.out] at ho33 | (simp only [Int.reduceToNat] at ho33; rw [← Ny198.out] at ho33)); have n0_ := Aside0.mk (Kd.R_below (by (with_reducible repeat (first | apply Kd.R_alloc | apply Kd.R_drewN | apply Kd.R_drew)); exact HO_10.out) hb); have n1_ := Aside0.mk (Kd.R_lower ho33 (below_size (by repeat (first | (with_reducible first | exact HB.out | apply below_alloc | apply pw_below_drewN | apply below_drew1) | exact HB.out)))); have n2_ := Aside0.mk (below_step (by repeat (first | (with_reducible first | exact HB.out | apply below_alloc | apply pw_below_drewN | apply below_drew1) | exact HB.out)) hb); clear HO_10; clear HB; have HO_10 := n0_; have HO200 := n1_; have HB := n2_; clear n0_ n1_ n2_; clear hb ho33))
                     go_loopg [11] k4 (fun kq v11 w' => ∃ (x10_5 : List Int) (x11_5 : Int) (x13_5 : List Bool), v11 = .int .i64 x11_5 ∧ Aside0 (pledgeref10_Split.l3 kq a0 l1 x6_2 x10_5 x11_5 x13_5 = some (r1, r2)) ∧ Aside0 (kq ≤ k4) ∧ Aside0 (Kd.R (Kd.int .i64) 2 w' w.heap.size (fun _ => True) v191 x10_5) ∧ Aside0 (Kd.R Kd.bool 4 w' w.heap.size (fun _ => True) v199 x13_5) ∧ Aside0 (Below w.heap.size w w'))
                     case atStart => exact ⟨(x10_4), (x11_4), (y198), (by first | rfl | (simp; done) | (simp [*]; done) | (simp [wrap64]; done) | (simp [wrap64]; omega)), H', ⟨Nat.le_refl _⟩, ⟨by (with_reducible repeat (first | apply Kd.R_alloc | apply Kd.R_drewN | apply Kd.R_drew)); exact HO_10.out⟩, ⟨by (with_reducible repeat (first | apply Kd.R_alloc | apply Kd.R_drewN | apply Kd.R_drew)); exact HO200.out⟩, ⟨by repeat (first | (with_reducible first | exact HB.out | apply below_alloc | apply pw_below_drewN | apply below_drew1) | exact HB.out)⟩⟩
                     case round =>
                      clear H'
                      try clear c1
                      try clear p1
                      try clear q1
                      try clear hx1
                      try clear c2
                      try clear p2
                      try clear q2
                      try clear hx2
                      try clear hf2
                      try clear c3
                      try clear c3b0
                      try clear c3b1
                      try clear c5
                      try clear c5b0
                      try clear c6
                      try clear p6
                      try clear c7
                      try clear c7b0
                      try clear c9
                      try clear c10
                      try clear c10b0
                      try clear c11
                      try clear c11b0
                      try clear c12
                      try clear c12b0
                      try clear c14
                      try clear c14b0
                      try clear c14b1
                      try clear c15
                      try clear c16
                      try clear c16b0
                      try clear c16b1
                      try clear c17
                      try clear c17b0
                      try clear c17b1
                      try clear c18
                      try clear c18b0
                      try clear c18b1
                      try clear p18
                      try clear q18
                      try clear hx18
                      try clear p19
                      try clear q19
                      try clear hx19
                      try clear c23
                      try clear c23b0
                      try clear c24
                      try clear c24b0
                      try clear c26
                      try clear c26b0
                      try clear p27
                      try clear q27
                      try clear hx27
                      try clear hf27
                      try clear c30
                      try clear c30b0
                      try clear c30b1
                      try clear c31
                      try clear c31b0
                      try clear c31b1
                      try clear hx187_0
                      try clear hx189_0
                      try clear hx193_0
                      try clear hx197_0
                      try clear hx27_0
                      try clear p1
                      try clear p18
                      try clear p187
                      try clear p189
                      try clear p193
                      try clear p197
                      try clear p2
                      try clear p27
                      try clear p6
                      try clear q1
                      try clear q18
                      try clear q187
                      try clear q189
                      try clear q193
                      try clear q197
                      try clear q27
                      obtain ⟨x10_5, x11_5, x13_5, rfl, HA, HK5, HO_10, HO_13, HB⟩ := hrel
                      cases gk with
                      | zero => exact absurd HA.out (by simp [pledgeref10_Split.l3])
                      | succ k5 =>
                       have H := HA.out
                       clear HA
                       simp only [pledgeref10_Split.l3] at H
                       by_cases c34 : x11_5 > 0
                       ·
                        rw [if_pos c34] at H
                        have c34b0 : decide (0 < x11_5) = true := decide_eq_true c34
                        clear c34
                        have H' := Aside0.mk H
                        clear H
                        go_wp2
                        go_loopg [14, 15] k5 (fun kq v14 v15 w' => ∃ (x14_6 : Int) (x15_6 : Int), v14 = .int .i64 x14_6 ∧ v15 = .int .i64 x15_6 ∧ Aside0 (pledgeref10_Split.l4 kq a0 l1 x6_2 x10_5 x11_5 x13_5 x14_6 x15_6 = some (r1, r2)) ∧ Aside0 (kq ≤ k5) ∧ Aside0 (Kd.R (Kd.int .i64) 2 w' w.heap.size (fun _ => True) v191 x10_5) ∧ Aside0 (Kd.R Kd.bool 4 w' w.heap.size (fun _ => True) v199 x13_5) ∧ Aside0 (Below w.heap.size w w'))
                        case atStart => exact ⟨((-1)), (0), (by first | rfl | (simp; done) | (simp [*]; done) | (simp [wrap64]; done) | (simp [wrap64]; omega)), (by first | rfl | (simp; done) | (simp [*]; done) | (simp [wrap64]; done) | (simp [wrap64]; omega)), H', ⟨Nat.le_refl _⟩, ⟨by (with_reducible repeat (first | apply Kd.R_alloc | apply Kd.R_drewN | apply Kd.R_drew)); exact HO_10.out⟩, ⟨by (with_reducible repeat (first | apply Kd.R_alloc | apply Kd.R_drewN | apply Kd.R_drew)); exact HO_13.out⟩, ⟨by repeat (first | (with_reducible first | exact HB.out | apply below_alloc | apply pw_below_drewN | apply below_drew1) | exact HB.out)⟩⟩
                        case round =>
                         clear H'
                         try clear c1
                         try clear p1
                         try clear q1
                         try clear hx1
                         try clear c2
                         try clear p2
                         try clear q2
                         try clear hx2
                         try clear hf2
                         try clear c3
                         try clear c3b0
                         try clear c3b1
                         try clear c5
                         try clear c5b0
                         try clear c6
                         try clear p6
                         try clear c7
                         try clear c7b0
                         try clear c9
                         try clear c10
                         try clear c10b0
                         try clear c11
                         try clear c11b0
                         try clear c12
                         try clear c12b0
                         try clear c14
                         try clear c14b0
                         try clear c14b1
                         try clear c15
                         try clear c16
                         try clear c16b0
                         try clear c16b1
                         try clear c17
                         try clear c17b0
                         try clear c17b1
                         try clear c18
                         try clear c18b0
                         try clear c18b1
                         try clear p18
                         try clear q18
                         try clear hx18
                         try clear p19
                         try clear q19
                         try clear hx19
                         try clear c23
                         try clear c23b0
                         try clear c24
                         try clear c24b0
                         try clear c26
                         try clear c26b0
                         try clear p27
                         try clear q27
                         try clear hx27
                         try clear hf27
                         try clear c30
                         try clear c30b0
                         try clear c30b1
                         try clear c31
                         try clear c31b0
                         try clear c31b1
                         try clear c34
                         try clear c34b0
                         try clear hx187_0
                         try clear hx189_0
                         try clear hx193_0
                         try clear hx197_0
                         try clear hx27_0
                         try clear p1
                         try clear p18
                         try clear p187
                         try clear p189
                         try clear p19
                         try clear p193
                         try clear p197
                         try clear p2
                         try clear p27
                         try clear p6
                         try clear q1
                         try clear q18
                         try clear q187
                         try clear q189
                         try clear q19
                         try clear q193
                         try clear q197
                         try clear q2
                         try clear q27
                         obtain ⟨x14_6, x15_6, rfl, rfl, HA, HK6, HO_10, HO_13, HB⟩ := hrel
                         cases gk with
                         | zero => exact absurd HA.out (by simp [pledgeref10_Split.l4])
                         | succ k6 =>
                          have H := HA.out
                          clear HA
                          simp only [pledgeref10_Split.l4] at H
                          by_cases c35 : x15_6 < (l1.length : Int)
                          ·
                           rw [if_pos c35] at H
                           have c35b0 : decide (x15_6 < (l1.length : Int)) = true := decide_eq_true c35
                           clear c35
                           by_cases c36 : 0 ≤ x15_6
                           ·
                            rw [if_pos c36] at H
                            have c36b0 : decide (0 ≤ x15_6) = true := decide_eq_true c36
                            clear c36
                            by_cases c37 : x15_6 < (x13_5.length : Int)
                            ·
                             rw [if_pos c37] at H
                             have c37b0 : decide (x15_6 < (x13_5.length : Int)) = true := decide_eq_true c37
                             clear c37
                             obtain ⟨bq38, hbq38⟩ : ∃ b_ : Bool, b_ = (rdOf false x13_5 x15_6) := ⟨_, rfl⟩
                             replace H : (if bq38 = true then (pledgeref10_Split.l4 k6 a0 l1 x6_2 x10_5 x11_5 x13_5 x14_6 (wrap64 (x15_6 + 1))) else (if x14_6 < 0 then (pledgeref10_Split.l4 k6 a0 l1 x6_2 x10_5 x11_5 x13_5 x15_6 (wrap64 (x15_6 + 1))) else (if x15_6 < (x10_5.length : Int) then (if 0 ≤ x14_6 then (if x14_6 < (l1.length : Int) then (if x14_6 < (x10_5.length : Int) then ((pledgeref10_above.f a0 (rd l1 x15_6) (rd x10_5 x15_6) x6_2 (rd l1 x14_6) (rd x10_5 x14_6)).bind fun t206 => (if t206 = true then (pledgeref10_Split.l4 k6 a0 l1 x6_2 x10_5 x11_5 x13_5 x15_6 (wrap64 (x15_6 + 1))) else (pledgeref10_Split.l4 k6 a0 l1 x6_2 x10_5 x11_5 x13_5 x14_6 (wrap64 (x15_6 + 1))))) else (none)) else (none)) else (none)) else (none)))) = some (r1, r2) := by rw [← hbq38] at H; exact H
                             have Nbq38 := Aside0.mk hbq38
                             clear hbq38
                             by_cases c39 : bq38 = true
                             ·
                              subst c39
                              have H1 : (pledgeref10_Split.l4 k6 a0 l1 x6_2 x10_5 x11_5 x13_5 x14_6 (wrap64 (x15_6 + 1))) = some (r1, r2) := by rw [if_pos rfl] at H; exact H
                              clear H
                              have H := H1
                              clear H1
                              have H' := Aside0.mk H
                              clear H
                              try go_wp2
                              have n0_ := Aside0.mk (Kd.R_drew HO_10.out)
                              have n1_ := Aside0.mk (Kd.R_drew HO_13.out)
                              have n2_ := Aside0.mk (below_drew1 HB.out)
                              clear HO_10
                              clear HO_13
                              clear HB
                              have HO_10 := n0_
                              have HO_13 := n1_
                              have HB := n2_
                              clear n0_ n1_ n2_
                              obtain ⟨Ao41, co41, eo41⟩ := Kd.R_slice HO_13.out
                              (first | subst eo41 | (injection eo41 with f1_ f2_ f3_; have f4_ := f1_.symm; have f5_ := f3_.symm; clear f1_ f2_ f3_; subst f4_; subst f5_))
                              have p201 : 0 ≤ (x15_6 : Int) := of_decide_eq_true (by first | (with_reducible assumption) | assumption)
                              have q201 : x15_6 < (x13_5.length : Int) := of_decide_eq_true (by first | (with_reducible assumption) | assumption)
                              obtain ⟨ad201, e201, hx201_0⟩ := Kd.at_bool (Kd.R_reads' HO_13.out).2.2 x15_6 p201 q201
                              (try rw [← Nbq38.out] at hx201_0)
                              cases e201
                              replace p201 := eq_true p201
                              replace q201 := eq_true q201
                              refine start_ (n := 30) (S := fun w' => w'.cell? (ad201.add (x15_6).toNat) = some (.bool true)) (ds := []) z8f76_m0 (by kernel_rfl) rfl rfl (hx201_0) (fun hHeld => ?_); refine with_tabW pledgeref10_Split.tab35 pledgeref10_Split.bits35 (fun HT_ HW_ => ?_)
                              generalize wr.drew = w40 at HO_10 HO_13 HB hx201_0 hHeld ⊢
                              refine z8f76_u 0 102 z8f76_m1 HT_ (v := ?_) (a' := ?_) rfl rfl (by kernel_rfl) (fun _ _ _ h => h) (Or.inl ⟨by rfl, ?_⟩) ?_ ?_
                              rotate_left
                              · intro w'; go_simp; with_reducible rfl
                              rotate_left
                              · simp only [Act.put, z8f76_q1, z8f76_q2, z8f76_q3, i64_w, i32_w]; rfl
                              refine z8f76_u 1 103 z8f76_m2 HT_ (v := ?_) (a' := ?_) rfl rfl (by kernel_rfl) (fun _ _ _ h => h) (Or.inl ⟨by rfl, ?_⟩) ?_ ?_
                              rotate_left
                              · intro w'; go_simp; with_reducible rfl
                              rotate_left
                              · simp only [Act.put, z8f76_q1, z8f76_q2, z8f76_q3, i64_w, i32_w]; rfl
                              refine z8f76_u 2 104 z8f76_m3 HT_ (v := ?_) (a' := ?_) rfl rfl (by kernel_rfl) (fun _ _ _ h => h) (Or.inl ⟨by rfl, ?_⟩) ?_ ?_
                              rotate_left
                              · intro w'; go_simp; with_reducible rfl
                              rotate_left
                              · simp only [Act.put, z8f76_q1, z8f76_q2, z8f76_q3, i64_w, i32_w]; rfl
                              refine take_ (i := 3) (N := some 105) (v := ?_) (a' := ?_) z8f76_m4 rfl rfl (take_ofW HT_.out HW_.out (by kernel_rfl)) (fun _ _ _ h => h) (Or.inl ⟨by rfl, ?_⟩) hHeld ?_ ?_
                              rotate_left
                              ·
                               intro w' s0
                               go_simp
                               with_reducible rfl
                              rotate_left
                              · simp only [Act.put, z8f76_q1, z8f76_q2, z8f76_q3, i64_w, i32_w]; rfl
                              refine z8f76_u 4 106 z8f76_m5 HT_ (v := ?_) (a' := ?_) rfl rfl (by kernel_rfl) (fun _ _ _ h => h) (Or.inl ⟨by rfl, ?_⟩) ?_ ?_
                              rotate_left
                              · intro w'; go_simp; with_reducible rfl
                              rotate_left
                              · simp only [Act.put, z8f76_q1, z8f76_q2, z8f76_q3, i64_w, i32_w]; rfl
                              refine z8f76_u 5 107 z8f76_m6 HT_ (v := ?_) (a' := ?_) rfl rfl (by kernel_rfl) (fun _ _ _ h => h) (Or.inl ⟨by rfl, ?_⟩) ?_ ?_
                              rotate_left
                              · intro w'; go_simp; with_reducible rfl
                              rotate_left
                              · simp only [Act.put, z8f76_q1, z8f76_q2, z8f76_q3, i64_w, i32_w]; rfl
                              refine z8f76_u 6 108 z8f76_m7 HT_ (v := undef) (a' := ?_) rfl rfl (by kernel_rfl) (fun _ _ _ h => h) (Or.inr ⟨by rfl, rfl⟩) ?_ ?_
                              rotate_left
                              · simp only [Act.put, z8f76_q1, z8f76_q2, z8f76_q3, i64_w, i32_w]; rfl
                              refine z8f76_u 7 109 z8f76_m8 HT_ (v := undef) (a' := ?_) rfl rfl (by kernel_rfl) (fun _ _ _ h => h) (Or.inr ⟨by rfl, rfl⟩) ?_ ?_
                              rotate_left
                              · simp only [Act.put, z8f76_q1, z8f76_q2, z8f76_q3, i64_w, i32_w]; rfl
                              refine z8f76_u 8 110 z8f76_m9 HT_ (v := undef) (a' := ?_) rfl rfl (by kernel_rfl) (fun _ _ _ h => h) (Or.inr ⟨by rfl, rfl⟩) ?_ ?_
                              rotate_left
                              · simp only [Act.put, z8f76_q1, z8f76_q2, z8f76_q3, i64_w, i32_w]; rfl
                              refine z8f76_u 9 111 z8f76_m10 HT_ (v := undef) (a' := ?_) rfl rfl (by kernel_rfl) (fun _ _ _ h => h) (Or.inr ⟨by rfl, rfl⟩) ?_ ?_
                              rotate_left
                              · simp only [Act.put, z8f76_q1, z8f76_q2, z8f76_q3, i64_w, i32_w]; rfl
                              refine z8f76_u 10 112 z8f76_m11 HT_ (v := undef) (a' := ?_) rfl rfl (by kernel_rfl) (fun _ _ _ h => h) (Or.inr ⟨by rfl, rfl⟩) ?_ ?_
                              rotate_left
                              · simp only [Act.put, z8f76_q1, z8f76_q2, z8f76_q3, i64_w, i32_w]; rfl
                              refine z8f76_u 11 113 z8f76_m12 HT_ (v := undef) (a' := ?_) rfl rfl (by kernel_rfl) (fun _ _ _ h => h) (Or.inr ⟨by rfl, rfl⟩) ?_ ?_
                              rotate_left
                              · simp only [Act.put, z8f76_q1, z8f76_q2, z8f76_q3, i64_w, i32_w]; rfl
                              refine z8f76_u 12 114 z8f76_m13 HT_ (v := undef) (a' := ?_) rfl rfl (by kernel_rfl) (fun _ _ _ h => h) (Or.inr ⟨by rfl, rfl⟩) ?_ ?_
                              rotate_left
                              · simp only [Act.put, z8f76_q1, z8f76_q2, z8f76_q3, i64_w, i32_w]; rfl
                              refine z8f76_u 13 115 z8f76_m14 HT_ (v := undef) (a' := ?_) rfl rfl (by kernel_rfl) (fun _ _ _ h => h) (Or.inr ⟨by rfl, rfl⟩) ?_ ?_
                              rotate_left
                              · simp only [Act.put, z8f76_q1, z8f76_q2, z8f76_q3, i64_w, i32_w]; rfl
                              refine z8f76_u 14 116 z8f76_m15 HT_ (v := undef) (a' := ?_) rfl rfl (by kernel_rfl) (fun _ _ _ h => h) (Or.inr ⟨by rfl, rfl⟩) ?_ ?_
                              rotate_left
                              · simp only [Act.put, z8f76_q1, z8f76_q2, z8f76_q3, i64_w, i32_w]; rfl
                              refine z8f76_u 15 117 z8f76_m16 HT_ (v := undef) (a' := ?_) rfl rfl (by kernel_rfl) (fun _ _ _ h => h) (Or.inr ⟨by rfl, rfl⟩) ?_ ?_
                              rotate_left
                              · simp only [Act.put, z8f76_q1, z8f76_q2, z8f76_q3, i64_w, i32_w]; rfl
                              refine z8f76_u 16 118 z8f76_m17 HT_ (v := undef) (a' := ?_) rfl rfl (by kernel_rfl) (fun _ _ _ h => h) (Or.inr ⟨by rfl, rfl⟩) ?_ ?_
                              rotate_left
                              · simp only [Act.put, z8f76_q1, z8f76_q2, z8f76_q3, i64_w, i32_w]; rfl
                              refine z8f76_u 17 119 z8f76_m18 HT_ (v := undef) (a' := ?_) rfl rfl (by kernel_rfl) (fun _ _ _ h => h) (Or.inr ⟨by rfl, rfl⟩) ?_ ?_
                              rotate_left
                              · simp only [Act.put, z8f76_q1, z8f76_q2, z8f76_q3, i64_w, i32_w]; rfl
                              refine z8f76_u 18 120 z8f76_m19 HT_ (v := undef) (a' := ?_) rfl rfl (by kernel_rfl) (fun _ _ _ h => h) (Or.inr ⟨by rfl, rfl⟩) ?_ ?_
                              rotate_left
                              · simp only [Act.put, z8f76_q1, z8f76_q2, z8f76_q3, i64_w, i32_w]; rfl
                              refine z8f76_u 19 121 z8f76_m20 HT_ (v := undef) (a' := ?_) rfl rfl (by kernel_rfl) (fun _ _ _ h => h) (Or.inr ⟨by rfl, rfl⟩) ?_ ?_
                              rotate_left
                              · simp only [Act.put, z8f76_q1, z8f76_q2, z8f76_q3, i64_w, i32_w]; rfl
                              refine z8f76_u 20 122 z8f76_m21 HT_ (v := undef) (a' := ?_) rfl rfl (by kernel_rfl) (fun _ _ _ h => h) (Or.inr ⟨by rfl, rfl⟩) ?_ ?_
                              rotate_left
                              · simp only [Act.put, z8f76_q1, z8f76_q2, z8f76_q3, i64_w, i32_w]; rfl
                              refine z8f76_u 21 123 z8f76_m22 HT_ (v := undef) (a' := ?_) rfl rfl (by kernel_rfl) (fun _ _ _ h => h) (Or.inr ⟨by rfl, rfl⟩) ?_ ?_
                              rotate_left
                              · simp only [Act.put, z8f76_q1, z8f76_q2, z8f76_q3, i64_w, i32_w]; rfl
                              refine z8f76_u 22 124 z8f76_m23 HT_ (v := undef) (a' := ?_) rfl rfl (by kernel_rfl) (fun _ _ _ h => h) (Or.inr ⟨by rfl, rfl⟩) ?_ ?_
                              rotate_left
                              · simp only [Act.put, z8f76_q1, z8f76_q2, z8f76_q3, i64_w, i32_w]; rfl
                              refine z8f76_u 23 125 z8f76_m24 HT_ (v := undef) (a' := ?_) rfl rfl (by kernel_rfl) (fun _ _ _ h => h) (Or.inr ⟨by rfl, rfl⟩) ?_ ?_
                              rotate_left
                              · simp only [Act.put, z8f76_q1, z8f76_q2, z8f76_q3, i64_w, i32_w]; rfl
                              refine z8f76_u 24 126 z8f76_m25 HT_ (v := undef) (a' := ?_) rfl rfl (by kernel_rfl) (fun _ _ _ h => h) (Or.inr ⟨by rfl, rfl⟩) ?_ ?_
                              rotate_left
                              · simp only [Act.put, z8f76_q1, z8f76_q2, z8f76_q3, i64_w, i32_w]; rfl
                              refine z8f76_u 25 127 z8f76_m26 HT_ (v := undef) (a' := ?_) rfl rfl (by kernel_rfl) (fun _ _ _ h => h) (Or.inr ⟨by rfl, rfl⟩) ?_ ?_
                              rotate_left
                              · simp only [Act.put, z8f76_q1, z8f76_q2, z8f76_q3, i64_w, i32_w]; rfl
                              refine z8f76_u 26 128 z8f76_m27 HT_ (v := undef) (a' := ?_) rfl rfl (by kernel_rfl) (fun _ _ _ h => h) (Or.inr ⟨by rfl, rfl⟩) ?_ ?_
                              rotate_left
                              · simp only [Act.put, z8f76_q1, z8f76_q2, z8f76_q3, i64_w, i32_w]; rfl
                              refine z8f76_u 27 129 z8f76_m28 HT_ (v := undef) (a' := ?_) rfl rfl (by kernel_rfl) (fun _ _ _ h => h) (Or.inr ⟨by rfl, rfl⟩) ?_ ?_
                              rotate_left
                              · simp only [Act.put, z8f76_q1, z8f76_q2, z8f76_q3, i64_w, i32_w]; rfl
                              refine z8f76_u 28 130 z8f76_m29 HT_ (v := undef) (a' := ?_) rfl rfl (by kernel_rfl) (fun _ _ _ h => h) (Or.inr ⟨by rfl, rfl⟩) ?_ ?_
                              rotate_left
                              · simp only [Act.put, z8f76_q1, z8f76_q2, z8f76_q3, i64_w, i32_w]; rfl
                              refine z8f76_u 29 131 z8f76_m30 HT_ (v := ?_) (a' := ?_) rfl rfl (by kernel_rfl) (fun _ _ _ h => h) (Or.inl ⟨by rfl, ?_⟩) ?_ ?_
                              rotate_left
                              · intro w'; go_simp; with_reducible rfl
                              rotate_left
                              · simp only [Act.put, z8f76_q1, z8f76_q2, z8f76_q3, i64_w, i32_w]; rfl
                              refine done_ (done_of HT_.out (by kernel_rfl)) ?_
                              try go_wp2
                              go_roundg k6
                              case measure => have := HK1.out; have := HK2.out; have := HJ12.out; have := HK4.out; have := HK5.out; have := HK6.out; omega
                              case rel => exact ⟨(x14_6), (wrap64 (x15_6 + 1)), (by first | rfl | (simp; done) | (simp [*]; done) | (simp [wrap64]; done) | (simp [wrap64]; omega)), (by first | rfl | (simp; done) | (simp [*]; done) | (simp [wrap64]; done) | (simp [wrap64]; omega)), H', ⟨by have := HK1.out; have := HK2.out; have := HJ12.out; have := HK4.out; have := HK5.out; have := HK6.out; omega⟩, ⟨by (with_reducible repeat (first | apply Kd.R_alloc | apply Kd.R_drewN | apply Kd.R_drew)); exact HO_10.out⟩, ⟨by (with_reducible repeat (first | apply Kd.R_alloc | apply Kd.R_drewN | apply Kd.R_drew)); exact HO_13.out⟩, ⟨by repeat (first | (with_reducible first | exact HB.out | apply below_alloc | apply pw_below_drewN | apply below_drew1) | exact HB.out)⟩⟩
                             ·
                              replace c39 := Bool.eq_false_iff.mpr c39
                              subst c39
                              have H1 : (if x14_6 < 0 then (pledgeref10_Split.l4 k6 a0 l1 x6_2 x10_5 x11_5 x13_5 x15_6 (wrap64 (x15_6 + 1))) else (if x15_6 < (x10_5.length : Int) then (if 0 ≤ x14_6 then (if x14_6 < (l1.length : Int) then (if x14_6 < (x10_5.length : Int) then ((pledgeref10_above.f a0 (rd l1 x15_6) (rd x10_5 x15_6) x6_2 (rd l1 x14_6) (rd x10_5 x14_6)).bind fun t206 => (if t206 = true then (pledgeref10_Split.l4 k6 a0 l1 x6_2 x10_5 x11_5 x13_5 x15_6 (wrap64 (x15_6 + 1))) else (pledgeref10_Split.l4 k6 a0 l1 x6_2 x10_5 x11_5 x13_5 x14_6 (wrap64 (x15_6 + 1))))) else (none)) else (none)) else (none)) else (none))) = some (r1, r2) := by rw [if_neg (show ¬ (false = true) by decide)] at H; exact H
                              clear H
                              have H := H1
                              clear H1
                              by_cases c42 : x14_6 < 0
                              ·
                               rw [if_pos c42] at H
                               have c42b0 : decide (x14_6 < 0) = true := decide_eq_true c42
                               clear c42
                               have H' := Aside0.mk H
                               clear H
                               try go_wp2
                               have n0_ := Aside0.mk (Kd.R_drew HO_10.out)
                               have n1_ := Aside0.mk (Kd.R_drew HO_13.out)
                               have n2_ := Aside0.mk (below_drew1 HB.out)
                               clear HO_10
                               clear HO_13
                               clear HB
                               have HO_10 := n0_
                               have HO_13 := n1_
                               have HB := n2_
                               clear n0_ n1_ n2_
                               obtain ⟨Ao44, co44, eo44⟩ := Kd.R_slice HO_13.out
                               (first | subst eo44 | (injection eo44 with f1_ f2_ f3_; have f4_ := f1_.symm; have f5_ := f3_.symm; clear f1_ f2_ f3_; subst f4_; subst f5_))
                               have p201 : 0 ≤ (x15_6 : Int) := of_decide_eq_true (by first | (with_reducible assumption) | assumption)
                               have q201 : x15_6 < (x13_5.length : Int) := of_decide_eq_true (by first | (with_reducible assumption) | assumption)
                               obtain ⟨ad201, e201, hx201_0⟩ := Kd.at_bool (Kd.R_reads' HO_13.out).2.2 x15_6 p201 q201
                               (try rw [← Nbq38.out] at hx201_0)
                               cases e201
                               replace p201 := eq_true p201
                               replace q201 := eq_true q201
                               refine start_ (n := 30) (S := fun w' => w'.cell? (ad201.add (x15_6).toNat) = some (.bool false)) (ds := []) z8f76_m0 (by kernel_rfl) rfl rfl (hx201_0) (fun hHeld => ?_); refine with_tabW pledgeref10_Split.tab35 pledgeref10_Split.bits35 (fun HT_ HW_ => ?_)
                               generalize wr.drew = w43 at HO_10 HO_13 HB hx201_0 hHeld ⊢
                               refine z8f76_u 0 102 z8f76_m1 HT_ (v := ?_) (a' := ?_) rfl rfl (by kernel_rfl) (fun _ _ _ h => h) (Or.inl ⟨by rfl, ?_⟩) ?_ ?_
                               rotate_left
                               · intro w'; go_simp; with_reducible rfl
                               rotate_left
                               · simp only [Act.put, z8f76_q1, z8f76_q2, z8f76_q3, i64_w, i32_w]; rfl
                               refine z8f76_u 1 103 z8f76_m2 HT_ (v := ?_) (a' := ?_) rfl rfl (by kernel_rfl) (fun _ _ _ h => h) (Or.inl ⟨by rfl, ?_⟩) ?_ ?_
                               rotate_left
                               · intro w'; go_simp; with_reducible rfl
                               rotate_left
                               · simp only [Act.put, z8f76_q1, z8f76_q2, z8f76_q3, i64_w, i32_w]; rfl
                               refine z8f76_u 2 104 z8f76_m3 HT_ (v := ?_) (a' := ?_) rfl rfl (by kernel_rfl) (fun _ _ _ h => h) (Or.inl ⟨by rfl, ?_⟩) ?_ ?_
                               rotate_left
                               · intro w'; go_simp; with_reducible rfl
                               rotate_left
                               · simp only [Act.put, z8f76_q1, z8f76_q2, z8f76_q3, i64_w, i32_w]; rfl
                               refine take_ (i := 3) (N := some 105) (v := ?_) (a' := ?_) z8f76_m4 rfl rfl (take_ofW HT_.out HW_.out (by kernel_rfl)) (fun _ _ _ h => h) (Or.inl ⟨by rfl, ?_⟩) hHeld ?_ ?_
                               rotate_left
                               ·
                                intro w' s0
                                go_simp
                                with_reducible rfl
                               rotate_left
                               · simp only [Act.put, z8f76_q1, z8f76_q2, z8f76_q3, i64_w, i32_w]; rfl
                               refine z8f76_u 4 106 z8f76_m5 HT_ (v := ?_) (a' := ?_) rfl rfl (by kernel_rfl) (fun _ _ _ h => h) (Or.inl ⟨by rfl, ?_⟩) ?_ ?_
                               rotate_left
                               · intro w'; go_simp; with_reducible rfl
                               rotate_left
                               · simp only [Act.put, z8f76_q1, z8f76_q2, z8f76_q3, i64_w, i32_w]; rfl
                               refine z8f76_u 5 107 z8f76_m6 HT_ (v := ?_) (a' := ?_) rfl rfl (by kernel_rfl) (fun _ _ _ h => h) (Or.inl ⟨by rfl, ?_⟩) ?_ ?_
                               rotate_left
                               · intro w'; go_simp; with_reducible rfl
                               rotate_left
                               · simp only [Act.put, z8f76_q1, z8f76_q2, z8f76_q3, i64_w, i32_w]; rfl
                               refine z8f76_u 6 108 z8f76_m7 HT_ (v := ?_) (a' := ?_) rfl rfl (by kernel_rfl) (fun _ _ _ h => h) (Or.inl ⟨by rfl, ?_⟩) ?_ ?_
                               rotate_left
                               · intro w'; go_simp; with_reducible rfl
                               rotate_left
                               · simp only [Act.put, z8f76_q1, z8f76_q2, z8f76_q3, i64_w, i32_w]; rfl
                               refine z8f76_u 7 109 z8f76_m8 HT_ (v := ?_) (a' := ?_) rfl rfl (by kernel_rfl) (fun _ _ _ h => h) (Or.inl ⟨by rfl, ?_⟩) ?_ ?_
                               rotate_left
                               · intro w'; go_simp; with_reducible rfl
                               rotate_left
                               · simp only [Act.put, z8f76_q1, z8f76_q2, z8f76_q3, i64_w, i32_w]; rfl
                               refine z8f76_u 8 110 z8f76_m9 HT_ (v := ?_) (a' := ?_) rfl rfl (by kernel_rfl) (fun _ _ _ h => h) (Or.inl ⟨by rfl, ?_⟩) ?_ ?_
                               rotate_left
                               · intro w'; go_simp; with_reducible rfl
                               rotate_left
                               · simp only [Act.put, z8f76_q1, z8f76_q2, z8f76_q3, i64_w, i32_w]; rfl
                               refine z8f76_u 9 111 z8f76_m10 HT_ (v := undef) (a' := ?_) rfl rfl (by kernel_rfl) (fun _ _ _ h => h) (Or.inr ⟨by rfl, rfl⟩) ?_ ?_
                               rotate_left
                               · simp only [Act.put, z8f76_q1, z8f76_q2, z8f76_q3, i64_w, i32_w]; rfl
                               refine z8f76_u 10 112 z8f76_m11 HT_ (v := undef) (a' := ?_) rfl rfl (by kernel_rfl) (fun _ _ _ h => h) (Or.inr ⟨by rfl, rfl⟩) ?_ ?_
                               rotate_left
                               · simp only [Act.put, z8f76_q1, z8f76_q2, z8f76_q3, i64_w, i32_w]; rfl
                               refine z8f76_u 11 113 z8f76_m12 HT_ (v := undef) (a' := ?_) rfl rfl (by kernel_rfl) (fun _ _ _ h => h) (Or.inr ⟨by rfl, rfl⟩) ?_ ?_
                               rotate_left
                               · simp only [Act.put, z8f76_q1, z8f76_q2, z8f76_q3, i64_w, i32_w]; rfl
                               refine z8f76_u 12 114 z8f76_m13 HT_ (v := undef) (a' := ?_) rfl rfl (by kernel_rfl) (fun _ _ _ h => h) (Or.inr ⟨by rfl, rfl⟩) ?_ ?_
                               rotate_left
                               · simp only [Act.put, z8f76_q1, z8f76_q2, z8f76_q3, i64_w, i32_w]; rfl
                               refine z8f76_u 13 115 z8f76_m14 HT_ (v := undef) (a' := ?_) rfl rfl (by kernel_rfl) (fun _ _ _ h => h) (Or.inr ⟨by rfl, rfl⟩) ?_ ?_
                               rotate_left
                               · simp only [Act.put, z8f76_q1, z8f76_q2, z8f76_q3, i64_w, i32_w]; rfl
                               refine z8f76_u 14 116 z8f76_m15 HT_ (v := undef) (a' := ?_) rfl rfl (by kernel_rfl) (fun _ _ _ h => h) (Or.inr ⟨by rfl, rfl⟩) ?_ ?_
                               rotate_left
                               · simp only [Act.put, z8f76_q1, z8f76_q2, z8f76_q3, i64_w, i32_w]; rfl
                               refine z8f76_u 15 117 z8f76_m16 HT_ (v := undef) (a' := ?_) rfl rfl (by kernel_rfl) (fun _ _ _ h => h) (Or.inr ⟨by rfl, rfl⟩) ?_ ?_
                               rotate_left
                               · simp only [Act.put, z8f76_q1, z8f76_q2, z8f76_q3, i64_w, i32_w]; rfl
                               refine z8f76_u 16 118 z8f76_m17 HT_ (v := undef) (a' := ?_) rfl rfl (by kernel_rfl) (fun _ _ _ h => h) (Or.inr ⟨by rfl, rfl⟩) ?_ ?_
                               rotate_left
                               · simp only [Act.put, z8f76_q1, z8f76_q2, z8f76_q3, i64_w, i32_w]; rfl
                               refine z8f76_u 17 119 z8f76_m18 HT_ (v := undef) (a' := ?_) rfl rfl (by kernel_rfl) (fun _ _ _ h => h) (Or.inr ⟨by rfl, rfl⟩) ?_ ?_
                               rotate_left
                               · simp only [Act.put, z8f76_q1, z8f76_q2, z8f76_q3, i64_w, i32_w]; rfl
                               refine z8f76_u 18 120 z8f76_m19 HT_ (v := undef) (a' := ?_) rfl rfl (by kernel_rfl) (fun _ _ _ h => h) (Or.inr ⟨by rfl, rfl⟩) ?_ ?_
                               rotate_left
                               · simp only [Act.put, z8f76_q1, z8f76_q2, z8f76_q3, i64_w, i32_w]; rfl
                               refine z8f76_u 19 121 z8f76_m20 HT_ (v := undef) (a' := ?_) rfl rfl (by kernel_rfl) (fun _ _ _ h => h) (Or.inr ⟨by rfl, rfl⟩) ?_ ?_
                               rotate_left
                               · simp only [Act.put, z8f76_q1, z8f76_q2, z8f76_q3, i64_w, i32_w]; rfl
                               refine z8f76_u 20 122 z8f76_m21 HT_ (v := undef) (a' := ?_) rfl rfl (by kernel_rfl) (fun _ _ _ h => h) (Or.inr ⟨by rfl, rfl⟩) ?_ ?_
                               rotate_left
                               · simp only [Act.put, z8f76_q1, z8f76_q2, z8f76_q3, i64_w, i32_w]; rfl
                               refine z8f76_u 21 123 z8f76_m22 HT_ (v := undef) (a' := ?_) rfl rfl (by kernel_rfl) (fun _ _ _ h => h) (Or.inr ⟨by rfl, rfl⟩) ?_ ?_
                               rotate_left
                               · simp only [Act.put, z8f76_q1, z8f76_q2, z8f76_q3, i64_w, i32_w]; rfl
                               refine z8f76_u 22 124 z8f76_m23 HT_ (v := undef) (a' := ?_) rfl rfl (by kernel_rfl) (fun _ _ _ h => h) (Or.inr ⟨by rfl, rfl⟩) ?_ ?_
                               rotate_left
                               · simp only [Act.put, z8f76_q1, z8f76_q2, z8f76_q3, i64_w, i32_w]; rfl
                               refine z8f76_u 23 125 z8f76_m24 HT_ (v := undef) (a' := ?_) rfl rfl (by kernel_rfl) (fun _ _ _ h => h) (Or.inr ⟨by rfl, rfl⟩) ?_ ?_
                               rotate_left
                               · simp only [Act.put, z8f76_q1, z8f76_q2, z8f76_q3, i64_w, i32_w]; rfl
                               refine z8f76_u 24 126 z8f76_m25 HT_ (v := undef) (a' := ?_) rfl rfl (by kernel_rfl) (fun _ _ _ h => h) (Or.inr ⟨by rfl, rfl⟩) ?_ ?_
                               rotate_left
                               · simp only [Act.put, z8f76_q1, z8f76_q2, z8f76_q3, i64_w, i32_w]; rfl
                               refine z8f76_u 25 127 z8f76_m26 HT_ (v := undef) (a' := ?_) rfl rfl (by kernel_rfl) (fun _ _ _ h => h) (Or.inr ⟨by rfl, rfl⟩) ?_ ?_
                               rotate_left
                               · simp only [Act.put, z8f76_q1, z8f76_q2, z8f76_q3, i64_w, i32_w]; rfl
                               refine z8f76_u 26 128 z8f76_m27 HT_ (v := undef) (a' := ?_) rfl rfl (by kernel_rfl) (fun _ _ _ h => h) (Or.inr ⟨by rfl, rfl⟩) ?_ ?_
                               rotate_left
                               · simp only [Act.put, z8f76_q1, z8f76_q2, z8f76_q3, i64_w, i32_w]; rfl
                               refine z8f76_u 27 129 z8f76_m28 HT_ (v := undef) (a' := ?_) rfl rfl (by kernel_rfl) (fun _ _ _ h => h) (Or.inr ⟨by rfl, rfl⟩) ?_ ?_
                               rotate_left
                               · simp only [Act.put, z8f76_q1, z8f76_q2, z8f76_q3, i64_w, i32_w]; rfl
                               refine z8f76_u 28 130 z8f76_m29 HT_ (v := ?_) (a' := ?_) rfl rfl (by kernel_rfl) (fun _ _ _ h => h) (Or.inl ⟨by rfl, ?_⟩) ?_ ?_
                               rotate_left
                               · intro w'; go_simp; with_reducible rfl
                               rotate_left
                               · simp only [Act.put, z8f76_q1, z8f76_q2, z8f76_q3, i64_w, i32_w]; rfl
                               refine z8f76_u 29 131 z8f76_m30 HT_ (v := ?_) (a' := ?_) rfl rfl (by kernel_rfl) (fun _ _ _ h => h) (Or.inl ⟨by rfl, ?_⟩) ?_ ?_
                               rotate_left
                               · intro w'; go_simp; with_reducible rfl
                               rotate_left
                               · simp only [Act.put, z8f76_q1, z8f76_q2, z8f76_q3, i64_w, i32_w]; rfl
                               refine done_ (done_of HT_.out (by kernel_rfl)) ?_
                               try go_wp2
                               go_roundg k6
                               case measure => have := HK1.out; have := HK2.out; have := HJ12.out; have := HK4.out; have := HK5.out; have := HK6.out; omega
                               case rel => exact ⟨(x15_6), (wrap64 (x15_6 + 1)), (by first | rfl | (simp; done) | (simp [*]; done) | (simp [wrap64]; done) | (simp [wrap64]; omega)), (by first | rfl | (simp; done) | (simp [*]; done) | (simp [wrap64]; done) | (simp [wrap64]; omega)), H', ⟨by have := HK1.out; have := HK2.out; have := HJ12.out; have := HK4.out; have := HK5.out; have := HK6.out; omega⟩, ⟨by (with_reducible repeat (first | apply Kd.R_alloc | apply Kd.R_drewN | apply Kd.R_drew)); exact HO_10.out⟩, ⟨by (with_reducible repeat (first | apply Kd.R_alloc | apply Kd.R_drewN | apply Kd.R_drew)); exact HO_13.out⟩, ⟨by repeat (first | (with_reducible first | exact HB.out | apply below_alloc | apply pw_below_drewN | apply below_drew1) | exact HB.out)⟩⟩
                              ·
                               rw [if_neg c42] at H
                               have c42b0 : decide (x14_6 < 0) = false := decide_eq_false c42
                               clear c42
                               by_cases c45 : x15_6 < (x10_5.length : Int)
                               ·
                                rw [if_pos c45] at H
                                have c45b0 : decide (x15_6 < (x10_5.length : Int)) = true := decide_eq_true c45
                                clear c45
                                by_cases c46 : 0 ≤ x14_6
                                ·
                                 rw [if_pos c46] at H
                                 have c46b0 : decide (0 ≤ x14_6) = true := decide_eq_true c46
                                 clear c46
                                 by_cases c47 : x14_6 < (l1.length : Int)
                                 ·
                                  rw [if_pos c47] at H
                                  have c47b0 : decide (x14_6 < (l1.length : Int)) = true := decide_eq_true c47
                                  clear c47
                                  by_cases c48 : x14_6 < (x10_5.length : Int)
                                  ·
                                   rw [if_pos c48] at H
                                   have c48b0 : decide (x14_6 < (x10_5.length : Int)) = true := decide_eq_true c48
                                   clear c48
                                   replace H := Option.bind_eq_some_iff.mp H
                                   obtain ⟨t206, A490, H⟩ := H
                                   replace H : (if t206 = true then (pledgeref10_Split.l4 k6 a0 l1 x6_2 x10_5 x11_5 x13_5 x15_6 (wrap64 (x15_6 + 1))) else (pledgeref10_Split.l4 k6 a0 l1 x6_2 x10_5 x11_5 x13_5 x14_6 (wrap64 (x15_6 + 1)))) = some (r1, r2) := H
                                   have A49 := Aside0.mk A490
                                   clear A490
                                   by_cases c50 : t206 = true
                                   ·
                                    subst c50
                                    have H1 : (pledgeref10_Split.l4 k6 a0 l1 x6_2 x10_5 x11_5 x13_5 x15_6 (wrap64 (x15_6 + 1))) = some (r1, r2) := by rw [if_pos rfl] at H; exact H
                                    clear H
                                    have H := H1
                                    clear H1
                                    have H' := Aside0.mk H
                                    clear H
                                    try go_wp2
                                    have n0_ := Aside0.mk (Kd.R_drew HO_10.out)
                                    have n1_ := Aside0.mk (Kd.R_drew HO_13.out)
                                    have n2_ := Aside0.mk (below_drew1 HB.out)
                                    clear HO_10
                                    clear HO_13
                                    clear HB
                                    have HO_10 := n0_
                                    have HO_13 := n1_
                                    have HB := n2_
                                    clear n0_ n1_ n2_
                                    obtain ⟨Ao52, co52, eo52⟩ := Kd.R_slice HO_13.out
                                    (first | subst eo52 | (injection eo52 with f1_ f2_ f3_; have f4_ := f1_.symm; have f5_ := f3_.symm; clear f1_ f2_ f3_; subst f4_; subst f5_))
                                    have p201 : 0 ≤ (x15_6 : Int) := of_decide_eq_true (by first | (with_reducible assumption) | assumption)
                                    have q201 : x15_6 < (x13_5.length : Int) := of_decide_eq_true (by first | (with_reducible assumption) | assumption)
                                    obtain ⟨ad201, e201, hx201_0⟩ := Kd.at_bool (Kd.R_reads' HO_13.out).2.2 x15_6 p201 q201
                                    (try rw [← Nbq38.out] at hx201_0)
                                    cases e201
                                    replace p201 := eq_true p201
                                    replace q201 := eq_true q201
                                    have p202 : 0 ≤ (x15_6 : Int) := of_decide_eq_true (by first | (with_reducible assumption) | assumption)
                                    have q202 : x15_6 < (l1.length : Int) := of_decide_eq_true (by first | (with_reducible assumption) | assumption)
                                    obtain ⟨ad202, e202, hx202_0⟩ := Kd.at_int HR1.out x15_6 p202 q202
                                    have hw202_0 := hx202_0
                                    cases e202
                                    replace hx202_0 := (HB.out.cell (World.block_lt_of_cell? w _ hx202_0)).trans hx202_0
                                    replace p202 := eq_true p202
                                    replace q202 := eq_true q202
                                    obtain ⟨Ao53, co53, eo53⟩ := Kd.R_slice HO_10.out
                                    (first | subst eo53 | (injection eo53 with f1_ f2_ f3_; have f4_ := f1_.symm; have f5_ := f3_.symm; clear f1_ f2_ f3_; subst f4_; subst f5_))
                                    have p203 : 0 ≤ (x15_6 : Int) := of_decide_eq_true (by first | (with_reducible assumption) | assumption)
                                    have q203 : x15_6 < (x10_5.length : Int) := of_decide_eq_true (by first | (with_reducible assumption) | assumption)
                                    obtain ⟨ad203, e203, hx203_0⟩ := Kd.at_int (Kd.R_reads' HO_10.out).2.2 x15_6 p203 q203
                                    cases e203
                                    replace p203 := eq_true p203
                                    replace q203 := eq_true q203
                                    have p204 : 0 ≤ (x14_6 : Int) := of_decide_eq_true (by first | (with_reducible assumption) | assumption)
                                    have q204 : x14_6 < (l1.length : Int) := of_decide_eq_true (by first | (with_reducible assumption) | assumption)
                                    obtain ⟨ad204, e204, hx204_0⟩ := Kd.at_int HR1.out x14_6 p204 q204
                                    have hw204_0 := hx204_0
                                    obtain rfl : ad202 = ad204 := (by injection e204)
                                    replace hx204_0 := (HB.out.cell (World.block_lt_of_cell? w _ hx204_0)).trans hx204_0
                                    replace p204 := eq_true p204
                                    replace q204 := eq_true q204
                                    have p205 : 0 ≤ (x14_6 : Int) := of_decide_eq_true (by first | (with_reducible assumption) | assumption)
                                    have q205 : x14_6 < (x10_5.length : Int) := of_decide_eq_true (by first | (with_reducible assumption) | assumption)
                                    obtain ⟨ad205, e205, hx205_0⟩ := Kd.at_int (Kd.R_reads' HO_10.out).2.2 x14_6 p205 q205
                                    obtain rfl : ad203 = ad205 := (by injection e205)
                                    replace p205 := eq_true p205
                                    replace q205 := eq_true q205
                                    refine start_ (n := 30) (S := fun w' => w'.cell? (ad201.add (x15_6).toNat) = some (.bool false) ∧ w'.cell? (ad202.add (x15_6).toNat) = some (.int .i64 (rd l1 x15_6)) ∧ w'.cell? (ad203.add (x15_6).toNat) = some (.int .i64 (rd x10_5 x15_6)) ∧ w'.cell? (ad202.add (x14_6).toNat) = some (.int .i64 (rd l1 x14_6)) ∧ w'.cell? (ad203.add (x14_6).toNat) = some (.int .i64 (rd x10_5 x14_6))) (ds := []) z8f76_m0 (by kernel_rfl) rfl rfl ⟨hx201_0, ((HB.out.cell (World.block_lt_of_cell? w _ hw202_0)).trans hw202_0), hx203_0, ((HB.out.cell (World.block_lt_of_cell? w _ hw204_0)).trans hw204_0), hx205_0⟩ (fun hHeld => ?_); refine with_tabW pledgeref10_Split.tab35 pledgeref10_Split.bits35 (fun HT_ HW_ => ?_)
                                    generalize wr.drew = w51 at HO_10 HO_13 HB hx201_0 hx202_0 hx203_0 hx204_0 hx205_0 hHeld ⊢
                                    refine z8f76_u 0 102 z8f76_m1 HT_ (v := ?_) (a' := ?_) rfl rfl (by kernel_rfl) (fun _ _ _ h => h) (Or.inl ⟨by rfl, ?_⟩) ?_ ?_
                                    rotate_left
                                    · intro w'; go_simp; with_reducible rfl
                                    rotate_left
                                    · simp only [Act.put, z8f76_q1, z8f76_q2, z8f76_q3, i64_w, i32_w]; rfl
                                    refine z8f76_u 1 103 z8f76_m2 HT_ (v := ?_) (a' := ?_) rfl rfl (by kernel_rfl) (fun _ _ _ h => h) (Or.inl ⟨by rfl, ?_⟩) ?_ ?_
                                    rotate_left
                                    · intro w'; go_simp; with_reducible rfl
                                    rotate_left
                                    · simp only [Act.put, z8f76_q1, z8f76_q2, z8f76_q3, i64_w, i32_w]; rfl
                                    refine z8f76_u 2 104 z8f76_m3 HT_ (v := ?_) (a' := ?_) rfl rfl (by kernel_rfl) (fun _ _ _ h => h) (Or.inl ⟨by rfl, ?_⟩) ?_ ?_
                                    rotate_left
                                    · intro w'; go_simp; with_reducible rfl
                                    rotate_left
                                    · simp only [Act.put, z8f76_q1, z8f76_q2, z8f76_q3, i64_w, i32_w]; rfl
                                    refine take_ (i := 3) (N := some 105) (v := ?_) (a' := ?_) z8f76_m4 rfl rfl (take_ofW HT_.out HW_.out (by kernel_rfl)) (fun _ _ _ h => h) (Or.inl ⟨by rfl, ?_⟩) hHeld ?_ ?_
                                    rotate_left
                                    ·
                                     rintro w' ⟨s0, s1, s2, s3, s4⟩
                                     go_simp
                                     with_reducible rfl
                                    rotate_left
                                    · simp only [Act.put, z8f76_q1, z8f76_q2, z8f76_q3, i64_w, i32_w]; rfl
                                    refine z8f76_u 4 106 z8f76_m5 HT_ (v := ?_) (a' := ?_) rfl rfl (by kernel_rfl) (fun _ _ _ h => h) (Or.inl ⟨by rfl, ?_⟩) ?_ ?_
                                    rotate_left
                                    · intro w'; go_simp; with_reducible rfl
                                    rotate_left
                                    · simp only [Act.put, z8f76_q1, z8f76_q2, z8f76_q3, i64_w, i32_w]; rfl
                                    refine z8f76_u 5 107 z8f76_m6 HT_ (v := ?_) (a' := ?_) rfl rfl (by kernel_rfl) (fun _ _ _ h => h) (Or.inl ⟨by rfl, ?_⟩) ?_ ?_
                                    rotate_left
                                    · intro w'; go_simp; with_reducible rfl
                                    rotate_left
                                    · simp only [Act.put, z8f76_q1, z8f76_q2, z8f76_q3, i64_w, i32_w]; rfl
                                    refine z8f76_u 6 108 z8f76_m7 HT_ (v := ?_) (a' := ?_) rfl rfl (by kernel_rfl) (fun _ _ _ h => h) (Or.inl ⟨by rfl, ?_⟩) ?_ ?_
                                    rotate_left
                                    · intro w'; go_simp; with_reducible rfl
                                    rotate_left
                                    · simp only [Act.put, z8f76_q1, z8f76_q2, z8f76_q3, i64_w, i32_w]; rfl
                                    refine z8f76_u 7 109 z8f76_m8 HT_ (v := ?_) (a' := ?_) rfl rfl (by kernel_rfl) (fun _ _ _ h => h) (Or.inl ⟨by rfl, ?_⟩) ?_ ?_
                                    rotate_left
                                    · intro w'; go_simp; with_reducible rfl
                                    rotate_left
                                    · simp only [Act.put, z8f76_q1, z8f76_q2, z8f76_q3, i64_w, i32_w]; rfl
                                    refine z8f76_u 8 110 z8f76_m9 HT_ (v := ?_) (a' := ?_) rfl rfl (by kernel_rfl) (fun _ _ _ h => h) (Or.inl ⟨by rfl, ?_⟩) ?_ ?_
                                    rotate_left
                                    · intro w'; go_simp; with_reducible rfl
                                    rotate_left
                                    · simp only [Act.put, z8f76_q1, z8f76_q2, z8f76_q3, i64_w, i32_w]; rfl
                                    refine z8f76_u 9 111 z8f76_m10 HT_ (v := ?_) (a' := ?_) rfl rfl (by kernel_rfl) (fun _ _ _ h => h) (Or.inl ⟨by rfl, ?_⟩) ?_ ?_
                                    rotate_left
                                    · intro w'; go_simp; with_reducible rfl
                                    rotate_left
                                    · simp only [Act.put, z8f76_q1, z8f76_q2, z8f76_q3, i64_w, i32_w]; rfl
                                    refine z8f76_u 10 112 z8f76_m11 HT_ (v := ?_) (a' := ?_) rfl rfl (by kernel_rfl) (fun _ _ _ h => h) (Or.inl ⟨by rfl, ?_⟩) ?_ ?_
                                    rotate_left
                                    · intro w'; go_simp; with_reducible rfl
                                    rotate_left
                                    · simp only [Act.put, z8f76_q1, z8f76_q2, z8f76_q3, i64_w, i32_w]; rfl
                                    refine z8f76_u 11 113 z8f76_m12 HT_ (v := ?_) (a' := ?_) rfl rfl (by kernel_rfl) (fun _ _ _ h => h) (Or.inl ⟨by rfl, ?_⟩) ?_ ?_
                                    rotate_left
                                    · intro w'; go_simp; with_reducible rfl
                                    rotate_left
                                    · simp only [Act.put, z8f76_q1, z8f76_q2, z8f76_q3, i64_w, i32_w]; rfl
                                    refine z8f76_u 12 114 z8f76_m13 HT_ (v := ?_) (a' := ?_) rfl rfl (by kernel_rfl) (fun _ _ _ h => h) (Or.inl ⟨by rfl, ?_⟩) ?_ ?_
                                    rotate_left
                                    · intro w'; go_simp; with_reducible rfl
                                    rotate_left
                                    · simp only [Act.put, z8f76_q1, z8f76_q2, z8f76_q3, i64_w, i32_w]; rfl
                                    refine z8f76_u 14 116 z8f76_m31 HT_ (v := ?_) (a' := ?_) rfl rfl (by kernel_rfl) (fun _ _ _ h => h) (Or.inl ⟨by rfl, ?_⟩) ?_ ?_
                                    rotate_left
                                    · intro w'; go_simp; with_reducible rfl
                                    rotate_left
                                    · simp only [Act.put, z8f76_q1, z8f76_q2, z8f76_q3, i64_w, i32_w]; rfl
                                    refine z8f76_u 15 117 z8f76_m32 HT_ (v := ?_) (a' := ?_) rfl rfl (by kernel_rfl) (fun _ _ _ h => h) (Or.inl ⟨by rfl, ?_⟩) ?_ ?_
                                    rotate_left
                                    · intro w'; go_simp; with_reducible rfl
                                    rotate_left
                                    · simp only [Act.put, z8f76_q1, z8f76_q2, z8f76_q3, i64_w, i32_w]; rfl
                                    refine z8f76_u 16 118 z8f76_m33 HT_ (v := ?_) (a' := ?_) rfl rfl (by kernel_rfl) (fun _ _ _ h => h) (Or.inl ⟨by rfl, ?_⟩) ?_ ?_
                                    rotate_left
                                    · intro w'; go_simp; with_reducible rfl
                                    rotate_left
                                    · simp only [Act.put, z8f76_q1, z8f76_q2, z8f76_q3, i64_w, i32_w]; rfl
                                    refine z8f76_u 18 120 z8f76_m34 HT_ (v := ?_) (a' := ?_) rfl rfl (by kernel_rfl) (fun _ _ _ h => h) (Or.inl ⟨by rfl, ?_⟩) ?_ ?_
                                    rotate_left
                                    · intro w'; go_simp; with_reducible rfl
                                    rotate_left
                                    · simp only [Act.put, z8f76_q1, z8f76_q2, z8f76_q3, i64_w, i32_w]; rfl
                                    refine z8f76_u 19 121 z8f76_m35 HT_ (v := ?_) (a' := ?_) rfl rfl (by kernel_rfl) (fun _ _ _ h => h) (Or.inl ⟨by rfl, ?_⟩) ?_ ?_
                                    rotate_left
                                    · intro w'; go_simp; with_reducible rfl
                                    rotate_left
                                    · simp only [Act.put, z8f76_q1, z8f76_q2, z8f76_q3, i64_w, i32_w]; rfl
                                    refine z8f76_u 20 122 z8f76_m36 HT_ (v := ?_) (a' := ?_) rfl rfl (by kernel_rfl) (fun _ _ _ h => h) (Or.inl ⟨by rfl, ?_⟩) ?_ ?_
                                    rotate_left
                                    · intro w'; go_simp; with_reducible rfl
                                    rotate_left
                                    · simp only [Act.put, z8f76_q1, z8f76_q2, z8f76_q3, i64_w, i32_w]; rfl
                                    refine z8f76_u 21 123 z8f76_m37 HT_ (v := ?_) (a' := ?_) rfl rfl (by kernel_rfl) (fun _ _ _ h => h) (Or.inl ⟨by rfl, ?_⟩) ?_ ?_
                                    rotate_left
                                    · intro w'; go_simp; with_reducible rfl
                                    rotate_left
                                    · simp only [Act.put, z8f76_q1, z8f76_q2, z8f76_q3, i64_w, i32_w]; rfl
                                    refine z8f76_u 23 125 z8f76_m38 HT_ (v := ?_) (a' := ?_) rfl rfl (by kernel_rfl) (fun _ _ _ h => h) (Or.inl ⟨by rfl, ?_⟩) ?_ ?_
                                    rotate_left
                                    · intro w'; go_simp; with_reducible rfl
                                    rotate_left
                                    · simp only [Act.put, z8f76_q1, z8f76_q2, z8f76_q3, i64_w, i32_w]; rfl
                                    refine z8f76_u 24 126 z8f76_m39 HT_ (v := ?_) (a' := ?_) rfl rfl (by kernel_rfl) (fun _ _ _ h => h) (Or.inl ⟨by rfl, ?_⟩) ?_ ?_
                                    rotate_left
                                    · intro w'; go_simp; with_reducible rfl
                                    rotate_left
                                    · simp only [Act.put, z8f76_q1, z8f76_q2, z8f76_q3, i64_w, i32_w]; rfl
                                    refine z8f76_u 25 127 z8f76_m40 HT_ (v := ?_) (a' := ?_) rfl rfl (by kernel_rfl) (fun _ _ _ h => h) (Or.inl ⟨by rfl, ?_⟩) ?_ ?_
                                    rotate_left
                                    · intro w'; go_simp; with_reducible rfl
                                    rotate_left
                                    · simp only [Act.put, z8f76_q1, z8f76_q2, z8f76_q3, i64_w, i32_w]; rfl
                                    refine take_ (i := 13) (N := some 115) (v := ?_) (a' := ?_) z8f76_m41 rfl rfl (take_ofW HT_.out HW_.out (by kernel_rfl)) (fun _ _ _ h => h) (Or.inl ⟨by rfl, ?_⟩) hHeld ?_ ?_
                                    rotate_left
                                    ·
                                     rintro w' ⟨s0, s1, s2, s3, s4⟩
                                     go_simp
                                     with_reducible rfl
                                    rotate_left
                                    · simp only [Act.put, z8f76_q1, z8f76_q2, z8f76_q3, i64_w, i32_w]; rfl
                                    refine take_ (i := 17) (N := some 119) (v := ?_) (a' := ?_) z8f76_m42 rfl rfl (take_ofW HT_.out HW_.out (by kernel_rfl)) (fun _ _ _ h => h) (Or.inl ⟨by rfl, ?_⟩) hHeld ?_ ?_
                                    rotate_left
                                    ·
                                     rintro w' ⟨s0, s1, s2, s3, s4⟩
                                     go_simp
                                     with_reducible rfl
                                    rotate_left
                                    · simp only [Act.put, z8f76_q1, z8f76_q2, z8f76_q3, i64_w, i32_w]; rfl
                                    refine take_ (i := 22) (N := some 124) (v := ?_) (a' := ?_) z8f76_m26 rfl rfl (take_ofW HT_.out HW_.out (by kernel_rfl)) (fun _ _ _ h => h) (Or.inl ⟨by rfl, ?_⟩) hHeld ?_ ?_
                                    rotate_left
                                    ·
                                     rintro w' ⟨s0, s1, s2, s3, s4⟩
                                     go_simp
                                     with_reducible rfl
                                    rotate_left
                                    · simp only [Act.put, z8f76_q1, z8f76_q2, z8f76_q3, i64_w, i32_w]; rfl
                                    refine take_ (i := 26) (N := some 128) (v := ?_) (a' := ?_) z8f76_m27 rfl rfl (take_ofW HT_.out HW_.out (by kernel_rfl)) (fun _ _ _ h => h) (Or.inl ⟨by rfl, ?_⟩) hHeld ?_ ?_
                                    rotate_left
                                    ·
                                     rintro w' ⟨s0, s1, s2, s3, s4⟩
                                     go_simp
                                     with_reducible rfl
                                    rotate_left
                                    · simp only [Act.put, z8f76_q1, z8f76_q2, z8f76_q3, i64_w, i32_w]; rfl
                                    refine one_ (i := 27) (N := some 129) z8f76_m28 rfl rfl (one_of HT_.out (by kernel_rfl)) (by decide) (fun K hK => ?_)
                                    refine goes_ Tryd.func25 (by kernel_rfl) rfl #[.int .i64 a0, .int .i64 (rd l1 x15_6), .int .i64 (rd x10_5 x15_6), .int .i64 x6_2, .int .i64 (rd l1 x14_6), .int .i64 (rd x10_5 x14_6)] (by rfl) rfl rfl (by (try simp only [List.map_toArray, List.map_cons, List.map_nil]); first | done | rfl | (simp only [List.length_drop, List.length_take]; rfl)) ?_
                                    with_reducible refine (pledgeref10_above.calls a0 (rd l1 x15_6) (rd x10_5 x15_6) x6_2 (rd l1 x14_6) (rd x10_5 x14_6) true _ A49.out).mono ?_
                                    rintro e w' ⟨rfl, ⟨nd, rfl⟩⟩
                                    refine ⟨_, rfl, ?_⟩
                                    refine hK.out _ _ ⟨hHeld.1, ((HB.out.cell (World.block_lt_of_cell? w _ hw202_0)).trans hw202_0), hHeld.2.2.1, ((HB.out.cell (World.block_lt_of_cell? w _ hw204_0)).trans hw204_0), hHeld.2.2.2.2⟩ (fun hHeld => ?_)
                                    clear hK K
                                    refine norm_ (a' := ?_) ?_ ?_
                                    rotate_left
                                    ·
                                     show Act.put _ (some 129) _ = _
                                     simp only [Act.put, z8f76_q1, z8f76_q2, z8f76_q3, i64_w, i32_w]
                                     rfl
                                    refine z8f76_u 28 130 z8f76_m29 HT_ (v := ?_) (a' := ?_) rfl rfl (by kernel_rfl) (fun _ _ _ h => h) (Or.inl ⟨by rfl, ?_⟩) ?_ ?_
                                    rotate_left
                                    · intro w'; go_simp; with_reducible rfl
                                    rotate_left
                                    · simp only [Act.put, z8f76_q1, z8f76_q2, z8f76_q3, i64_w, i32_w]; rfl
                                    refine z8f76_u 29 131 z8f76_m30 HT_ (v := ?_) (a' := ?_) rfl rfl (by kernel_rfl) (fun _ _ _ h => h) (Or.inl ⟨by rfl, ?_⟩) ?_ ?_
                                    rotate_left
                                    · intro w'; go_simp; with_reducible rfl
                                    rotate_left
                                    · simp only [Act.put, z8f76_q1, z8f76_q2, z8f76_q3, i64_w, i32_w]; rfl
                                    refine done_ (done_of HT_.out (by kernel_rfl)) ?_
                                    try go_wp2
                                    go_roundg k6
                                    case measure => have := HK1.out; have := HK2.out; have := HJ12.out; have := HK4.out; have := HK5.out; have := HK6.out; omega
                                    case rel => exact ⟨(x15_6), (wrap64 (x15_6 + 1)), (by first | rfl | (simp; done) | (simp [*]; done) | (simp [wrap64]; done) | (simp [wrap64]; omega)), (by first | rfl | (simp; done) | (simp [*]; done) | (simp [wrap64]; done) | (simp [wrap64]; omega)), H', ⟨by have := HK1.out; have := HK2.out; have := HJ12.out; have := HK4.out; have := HK5.out; have := HK6.out; omega⟩, ⟨by (with_reducible repeat (first | apply Kd.R_alloc | apply Kd.R_drewN | apply Kd.R_drew)); exact HO_10.out⟩, ⟨by (with_reducible repeat (first | apply Kd.R_alloc | apply Kd.R_drewN | apply Kd.R_drew)); exact HO_13.out⟩, ⟨by repeat (first | (with_reducible first | exact HB.out | apply below_alloc | apply pw_below_drewN | apply below_drew1) | exact HB.out)⟩⟩
                                   ·
                                    replace c50 := Bool.eq_false_iff.mpr c50
                                    subst c50
                                    have H1 : (pledgeref10_Split.l4 k6 a0 l1 x6_2 x10_5 x11_5 x13_5 x14_6 (wrap64 (x15_6 + 1))) = some (r1, r2) := by rw [if_neg (show ¬ (false = true) by decide)] at H; exact H
                                    clear H
                                    have H := H1
                                    clear H1
                                    have H' := Aside0.mk H
                                    clear H
                                    try go_wp2
                                    have n0_ := Aside0.mk (Kd.R_drew HO_10.out)
                                    have n1_ := Aside0.mk (Kd.R_drew HO_13.out)
                                    have n2_ := Aside0.mk (below_drew1 HB.out)
                                    clear HO_10
                                    clear HO_13
                                    clear HB
                                    have HO_10 := n0_
                                    have HO_13 := n1_
                                    have HB := n2_
                                    clear n0_ n1_ n2_
                                    obtain ⟨Ao55, co55, eo55⟩ := Kd.R_slice HO_13.out
                                    (first | subst eo55 | (injection eo55 with f1_ f2_ f3_; have f4_ := f1_.symm; have f5_ := f3_.symm; clear f1_ f2_ f3_; subst f4_; subst f5_))
                                    have p201 : 0 ≤ (x15_6 : Int) := of_decide_eq_true (by first | (with_reducible assumption) | assumption)
                                    have q201 : x15_6 < (x13_5.length : Int) := of_decide_eq_true (by first | (with_reducible assumption) | assumption)
                                    obtain ⟨ad201, e201, hx201_0⟩ := Kd.at_bool (Kd.R_reads' HO_13.out).2.2 x15_6 p201 q201
                                    (try rw [← Nbq38.out] at hx201_0)
                                    cases e201
                                    replace p201 := eq_true p201
                                    replace q201 := eq_true q201
                                    have p202 : 0 ≤ (x15_6 : Int) := of_decide_eq_true (by first | (with_reducible assumption) | assumption)
                                    have q202 : x15_6 < (l1.length : Int) := of_decide_eq_true (by first | (with_reducible assumption) | assumption)
                                    obtain ⟨ad202, e202, hx202_0⟩ := Kd.at_int HR1.out x15_6 p202 q202
                                    have hw202_0 := hx202_0
                                    cases e202
                                    replace hx202_0 := (HB.out.cell (World.block_lt_of_cell? w _ hx202_0)).trans hx202_0
                                    replace p202 := eq_true p202
                                    replace q202 := eq_true q202
                                    obtain ⟨Ao56, co56, eo56⟩ := Kd.R_slice HO_10.out
                                    (first | subst eo56 | (injection eo56 with f1_ f2_ f3_; have f4_ := f1_.symm; have f5_ := f3_.symm; clear f1_ f2_ f3_; subst f4_; subst f5_))
                                    have p203 : 0 ≤ (x15_6 : Int) := of_decide_eq_true (by first | (with_reducible assumption) | assumption)
                                    have q203 : x15_6 < (x10_5.length : Int) := of_decide_eq_true (by first | (with_reducible assumption) | assumption)
                                    obtain ⟨ad203, e203, hx203_0⟩ := Kd.at_int (Kd.R_reads' HO_10.out).2.2 x15_6 p203 q203
                                    cases e203
                                    replace p203 := eq_true p203
                                    replace q203 := eq_true q203
                                    have p204 : 0 ≤ (x14_6 : Int) := of_decide_eq_true (by first | (with_reducible assumption) | assumption)
                                    have q204 : x14_6 < (l1.length : Int) := of_decide_eq_true (by first | (with_reducible assumption) | assumption)
                                    obtain ⟨ad204, e204, hx204_0⟩ := Kd.at_int HR1.out x14_6 p204 q204
                                    have hw204_0 := hx204_0
                                    obtain rfl : ad202 = ad204 := (by injection e204)
                                    replace hx204_0 := (HB.out.cell (World.block_lt_of_cell? w _ hx204_0)).trans hx204_0
                                    replace p204 := eq_true p204
                                    replace q204 := eq_true q204
                                    have p205 : 0 ≤ (x14_6 : Int) := of_decide_eq_true (by first | (with_reducible assumption) | assumption)
                                    have q205 : x14_6 < (x10_5.length : Int) := of_decide_eq_true (by first | (with_reducible assumption) | assumption)
                                    obtain ⟨ad205, e205, hx205_0⟩ := Kd.at_int (Kd.R_reads' HO_10.out).2.2 x14_6 p205 q205
                                    obtain rfl : ad203 = ad205 := (by injection e205)
                                    replace p205 := eq_true p205
                                    replace q205 := eq_true q205
                                    refine start_ (n := 30) (S := fun w' => w'.cell? (ad201.add (x15_6).toNat) = some (.bool false) ∧ w'.cell? (ad202.add (x15_6).toNat) = some (.int .i64 (rd l1 x15_6)) ∧ w'.cell? (ad203.add (x15_6).toNat) = some (.int .i64 (rd x10_5 x15_6)) ∧ w'.cell? (ad202.add (x14_6).toNat) = some (.int .i64 (rd l1 x14_6)) ∧ w'.cell? (ad203.add (x14_6).toNat) = some (.int .i64 (rd x10_5 x14_6))) (ds := []) z8f76_m0 (by kernel_rfl) rfl rfl ⟨hx201_0, ((HB.out.cell (World.block_lt_of_cell? w _ hw202_0)).trans hw202_0), hx203_0, ((HB.out.cell (World.block_lt_of_cell? w _ hw204_0)).trans hw204_0), hx205_0⟩ (fun hHeld => ?_); refine with_tabW pledgeref10_Split.tab35 pledgeref10_Split.bits35 (fun HT_ HW_ => ?_)
                                    generalize wr.drew = w54 at HO_10 HO_13 HB hx201_0 hx202_0 hx203_0 hx204_0 hx205_0 hHeld ⊢
                                    refine z8f76_u 0 102 z8f76_m1 HT_ (v := ?_) (a' := ?_) rfl rfl (by kernel_rfl) (fun _ _ _ h => h) (Or.inl ⟨by rfl, ?_⟩) ?_ ?_
                                    rotate_left
                                    · intro w'; go_simp; with_reducible rfl
                                    rotate_left
                                    · simp only [Act.put, z8f76_q1, z8f76_q2, z8f76_q3, i64_w, i32_w]; rfl
                                    refine z8f76_u 1 103 z8f76_m2 HT_ (v := ?_) (a' := ?_) rfl rfl (by kernel_rfl) (fun _ _ _ h => h) (Or.inl ⟨by rfl, ?_⟩) ?_ ?_
                                    rotate_left
                                    · intro w'; go_simp; with_reducible rfl
                                    rotate_left
                                    · simp only [Act.put, z8f76_q1, z8f76_q2, z8f76_q3, i64_w, i32_w]; rfl
                                    refine z8f76_u 2 104 z8f76_m3 HT_ (v := ?_) (a' := ?_) rfl rfl (by kernel_rfl) (fun _ _ _ h => h) (Or.inl ⟨by rfl, ?_⟩) ?_ ?_
                                    rotate_left
                                    · intro w'; go_simp; with_reducible rfl
                                    rotate_left
                                    · simp only [Act.put, z8f76_q1, z8f76_q2, z8f76_q3, i64_w, i32_w]; rfl
                                    refine take_ (i := 3) (N := some 105) (v := ?_) (a' := ?_) z8f76_m4 rfl rfl (take_ofW HT_.out HW_.out (by kernel_rfl)) (fun _ _ _ h => h) (Or.inl ⟨by rfl, ?_⟩) hHeld ?_ ?_
                                    rotate_left
                                    ·
                                     rintro w' ⟨s0, s1, s2, s3, s4⟩
                                     go_simp
                                     with_reducible rfl
                                    rotate_left
                                    · simp only [Act.put, z8f76_q1, z8f76_q2, z8f76_q3, i64_w, i32_w]; rfl
                                    refine z8f76_u 4 106 z8f76_m5 HT_ (v := ?_) (a' := ?_) rfl rfl (by kernel_rfl) (fun _ _ _ h => h) (Or.inl ⟨by rfl, ?_⟩) ?_ ?_
                                    rotate_left
                                    · intro w'; go_simp; with_reducible rfl
                                    rotate_left
                                    · simp only [Act.put, z8f76_q1, z8f76_q2, z8f76_q3, i64_w, i32_w]; rfl
                                    refine z8f76_u 5 107 z8f76_m6 HT_ (v := ?_) (a' := ?_) rfl rfl (by kernel_rfl) (fun _ _ _ h => h) (Or.inl ⟨by rfl, ?_⟩) ?_ ?_
                                    rotate_left
                                    · intro w'; go_simp; with_reducible rfl
                                    rotate_left
                                    · simp only [Act.put, z8f76_q1, z8f76_q2, z8f76_q3, i64_w, i32_w]; rfl
                                    refine z8f76_u 6 108 z8f76_m7 HT_ (v := ?_) (a' := ?_) rfl rfl (by kernel_rfl) (fun _ _ _ h => h) (Or.inl ⟨by rfl, ?_⟩) ?_ ?_
                                    rotate_left
                                    · intro w'; go_simp; with_reducible rfl
                                    rotate_left
                                    · simp only [Act.put, z8f76_q1, z8f76_q2, z8f76_q3, i64_w, i32_w]; rfl
                                    refine z8f76_u 7 109 z8f76_m8 HT_ (v := ?_) (a' := ?_) rfl rfl (by kernel_rfl) (fun _ _ _ h => h) (Or.inl ⟨by rfl, ?_⟩) ?_ ?_
                                    rotate_left
                                    · intro w'; go_simp; with_reducible rfl
                                    rotate_left
                                    · simp only [Act.put, z8f76_q1, z8f76_q2, z8f76_q3, i64_w, i32_w]; rfl
                                    refine z8f76_u 8 110 z8f76_m9 HT_ (v := ?_) (a' := ?_) rfl rfl (by kernel_rfl) (fun _ _ _ h => h) (Or.inl ⟨by rfl, ?_⟩) ?_ ?_
                                    rotate_left
                                    · intro w'; go_simp; with_reducible rfl
                                    rotate_left
                                    · simp only [Act.put, z8f76_q1, z8f76_q2, z8f76_q3, i64_w, i32_w]; rfl
                                    refine z8f76_u 9 111 z8f76_m10 HT_ (v := ?_) (a' := ?_) rfl rfl (by kernel_rfl) (fun _ _ _ h => h) (Or.inl ⟨by rfl, ?_⟩) ?_ ?_
                                    rotate_left
                                    · intro w'; go_simp; with_reducible rfl
                                    rotate_left
                                    · simp only [Act.put, z8f76_q1, z8f76_q2, z8f76_q3, i64_w, i32_w]; rfl
                                    refine z8f76_u 10 112 z8f76_m11 HT_ (v := ?_) (a' := ?_) rfl rfl (by kernel_rfl) (fun _ _ _ h => h) (Or.inl ⟨by rfl, ?_⟩) ?_ ?_
                                    rotate_left
                                    · intro w'; go_simp; with_reducible rfl
                                    rotate_left
                                    · simp only [Act.put, z8f76_q1, z8f76_q2, z8f76_q3, i64_w, i32_w]; rfl
                                    refine z8f76_u 11 113 z8f76_m12 HT_ (v := ?_) (a' := ?_) rfl rfl (by kernel_rfl) (fun _ _ _ h => h) (Or.inl ⟨by rfl, ?_⟩) ?_ ?_
                                    rotate_left
                                    · intro w'; go_simp; with_reducible rfl
                                    rotate_left
                                    · simp only [Act.put, z8f76_q1, z8f76_q2, z8f76_q3, i64_w, i32_w]; rfl
                                    refine z8f76_u 12 114 z8f76_m13 HT_ (v := ?_) (a' := ?_) rfl rfl (by kernel_rfl) (fun _ _ _ h => h) (Or.inl ⟨by rfl, ?_⟩) ?_ ?_
                                    rotate_left
                                    · intro w'; go_simp; with_reducible rfl
                                    rotate_left
                                    · simp only [Act.put, z8f76_q1, z8f76_q2, z8f76_q3, i64_w, i32_w]; rfl
                                    refine z8f76_u 14 116 z8f76_m31 HT_ (v := ?_) (a' := ?_) rfl rfl (by kernel_rfl) (fun _ _ _ h => h) (Or.inl ⟨by rfl, ?_⟩) ?_ ?_
                                    rotate_left
                                    · intro w'; go_simp; with_reducible rfl
                                    rotate_left
                                    · simp only [Act.put, z8f76_q1, z8f76_q2, z8f76_q3, i64_w, i32_w]; rfl
                                    refine z8f76_u 15 117 z8f76_m32 HT_ (v := ?_) (a' := ?_) rfl rfl (by kernel_rfl) (fun _ _ _ h => h) (Or.inl ⟨by rfl, ?_⟩) ?_ ?_
                                    rotate_left
                                    · intro w'; go_simp; with_reducible rfl
                                    rotate_left
                                    · simp only [Act.put, z8f76_q1, z8f76_q2, z8f76_q3, i64_w, i32_w]; rfl
                                    refine z8f76_u 16 118 z8f76_m33 HT_ (v := ?_) (a' := ?_) rfl rfl (by kernel_rfl) (fun _ _ _ h => h) (Or.inl ⟨by rfl, ?_⟩) ?_ ?_
                                    rotate_left
                                    · intro w'; go_simp; with_reducible rfl
                                    rotate_left
                                    · simp only [Act.put, z8f76_q1, z8f76_q2, z8f76_q3, i64_w, i32_w]; rfl
                                    refine z8f76_u 18 120 z8f76_m34 HT_ (v := ?_) (a' := ?_) rfl rfl (by kernel_rfl) (fun _ _ _ h => h) (Or.inl ⟨by rfl, ?_⟩) ?_ ?_
                                    rotate_left
                                    · intro w'; go_simp; with_reducible rfl
                                    rotate_left
                                    · simp only [Act.put, z8f76_q1, z8f76_q2, z8f76_q3, i64_w, i32_w]; rfl
                                    refine z8f76_u 19 121 z8f76_m35 HT_ (v := ?_) (a' := ?_) rfl rfl (by kernel_rfl) (fun _ _ _ h => h) (Or.inl ⟨by rfl, ?_⟩) ?_ ?_
                                    rotate_left
                                    · intro w'; go_simp; with_reducible rfl
                                    rotate_left
                                    · simp only [Act.put, z8f76_q1, z8f76_q2, z8f76_q3, i64_w, i32_w]; rfl
                                    refine z8f76_u 20 122 z8f76_m36 HT_ (v := ?_) (a' := ?_) rfl rfl (by kernel_rfl) (fun _ _ _ h => h) (Or.inl ⟨by rfl, ?_⟩) ?_ ?_
                                    rotate_left
                                    · intro w'; go_simp; with_reducible rfl
                                    rotate_left
                                    · simp only [Act.put, z8f76_q1, z8f76_q2, z8f76_q3, i64_w, i32_w]; rfl
                                    refine z8f76_u 21 123 z8f76_m37 HT_ (v := ?_) (a' := ?_) rfl rfl (by kernel_rfl) (fun _ _ _ h => h) (Or.inl ⟨by rfl, ?_⟩) ?_ ?_
                                    rotate_left
                                    · intro w'; go_simp; with_reducible rfl
                                    rotate_left
                                    · simp only [Act.put, z8f76_q1, z8f76_q2, z8f76_q3, i64_w, i32_w]; rfl
                                    refine z8f76_u 23 125 z8f76_m38 HT_ (v := ?_) (a' := ?_) rfl rfl (by kernel_rfl) (fun _ _ _ h => h) (Or.inl ⟨by rfl, ?_⟩) ?_ ?_
                                    rotate_left
                                    · intro w'; go_simp; with_reducible rfl
                                    rotate_left
                                    · simp only [Act.put, z8f76_q1, z8f76_q2, z8f76_q3, i64_w, i32_w]; rfl
                                    refine z8f76_u 24 126 z8f76_m39 HT_ (v := ?_) (a' := ?_) rfl rfl (by kernel_rfl) (fun _ _ _ h => h) (Or.inl ⟨by rfl, ?_⟩) ?_ ?_
                                    rotate_left
                                    · intro w'; go_simp; with_reducible rfl
                                    rotate_left
                                    · simp only [Act.put, z8f76_q1, z8f76_q2, z8f76_q3, i64_w, i32_w]; rfl
                                    refine z8f76_u 25 127 z8f76_m40 HT_ (v := ?_) (a' := ?_) rfl rfl (by kernel_rfl) (fun _ _ _ h => h) (Or.inl ⟨by rfl, ?_⟩) ?_ ?_
                                    rotate_left
                                    · intro w'; go_simp; with_reducible rfl
                                    rotate_left
                                    · simp only [Act.put, z8f76_q1, z8f76_q2, z8f76_q3, i64_w, i32_w]; rfl
                                    refine take_ (i := 13) (N := some 115) (v := ?_) (a' := ?_) z8f76_m41 rfl rfl (take_ofW HT_.out HW_.out (by kernel_rfl)) (fun _ _ _ h => h) (Or.inl ⟨by rfl, ?_⟩) hHeld ?_ ?_
                                    rotate_left
                                    ·
                                     rintro w' ⟨s0, s1, s2, s3, s4⟩
                                     go_simp
                                     with_reducible rfl
                                    rotate_left
                                    · simp only [Act.put, z8f76_q1, z8f76_q2, z8f76_q3, i64_w, i32_w]; rfl
                                    refine take_ (i := 17) (N := some 119) (v := ?_) (a' := ?_) z8f76_m42 rfl rfl (take_ofW HT_.out HW_.out (by kernel_rfl)) (fun _ _ _ h => h) (Or.inl ⟨by rfl, ?_⟩) hHeld ?_ ?_
                                    rotate_left
                                    ·
                                     rintro w' ⟨s0, s1, s2, s3, s4⟩
                                     go_simp
                                     with_reducible rfl
                                    rotate_left
                                    · simp only [Act.put, z8f76_q1, z8f76_q2, z8f76_q3, i64_w, i32_w]; rfl
                                    refine take_ (i := 22) (N := some 124) (v := ?_) (a' := ?_) z8f76_m26 rfl rfl (take_ofW HT_.out HW_.out (by kernel_rfl)) (fun _ _ _ h => h) (Or.inl ⟨by rfl, ?_⟩) hHeld ?_ ?_
                                    rotate_left
                                    ·
                                     rintro w' ⟨s0, s1, s2, s3, s4⟩
                                     go_simp
                                     with_reducible rfl
                                    rotate_left
                                    · simp only [Act.put, z8f76_q1, z8f76_q2, z8f76_q3, i64_w, i32_w]; rfl
                                    refine take_ (i := 26) (N := some 128) (v := ?_) (a' := ?_) z8f76_m27 rfl rfl (take_ofW HT_.out HW_.out (by kernel_rfl)) (fun _ _ _ h => h) (Or.inl ⟨by rfl, ?_⟩) hHeld ?_ ?_
                                    rotate_left
                                    ·
                                     rintro w' ⟨s0, s1, s2, s3, s4⟩
                                     go_simp
                                     with_reducible rfl
                                    rotate_left
                                    · simp only [Act.put, z8f76_q1, z8f76_q2, z8f76_q3, i64_w, i32_w]; rfl
                                    refine one_ (i := 27) (N := some 129) z8f76_m28 rfl rfl (one_of HT_.out (by kernel_rfl)) (by decide) (fun K hK => ?_)
                                    refine goes_ Tryd.func25 (by kernel_rfl) rfl #[.int .i64 a0, .int .i64 (rd l1 x15_6), .int .i64 (rd x10_5 x15_6), .int .i64 x6_2, .int .i64 (rd l1 x14_6), .int .i64 (rd x10_5 x14_6)] (by rfl) rfl rfl (by (try simp only [List.map_toArray, List.map_cons, List.map_nil]); first | done | rfl | (simp only [List.length_drop, List.length_take]; rfl)) ?_
                                    with_reducible refine (pledgeref10_above.calls a0 (rd l1 x15_6) (rd x10_5 x15_6) x6_2 (rd l1 x14_6) (rd x10_5 x14_6) false _ A49.out).mono ?_
                                    rintro e w' ⟨rfl, ⟨nd, rfl⟩⟩
                                    refine ⟨_, rfl, ?_⟩
                                    refine hK.out _ _ ⟨hHeld.1, ((HB.out.cell (World.block_lt_of_cell? w _ hw202_0)).trans hw202_0), hHeld.2.2.1, ((HB.out.cell (World.block_lt_of_cell? w _ hw204_0)).trans hw204_0), hHeld.2.2.2.2⟩ (fun hHeld => ?_)
                                    clear hK K
                                    refine norm_ (a' := ?_) ?_ ?_
                                    rotate_left
                                    ·
                                     show Act.put _ (some 129) _ = _
                                     simp only [Act.put, z8f76_q1, z8f76_q2, z8f76_q3, i64_w, i32_w]
                                     rfl
                                    refine z8f76_u 28 130 z8f76_m29 HT_ (v := ?_) (a' := ?_) rfl rfl (by kernel_rfl) (fun _ _ _ h => h) (Or.inl ⟨by rfl, ?_⟩) ?_ ?_
                                    rotate_left
                                    · intro w'; go_simp; with_reducible rfl
                                    rotate_left
                                    · simp only [Act.put, z8f76_q1, z8f76_q2, z8f76_q3, i64_w, i32_w]; rfl
                                    refine z8f76_u 29 131 z8f76_m30 HT_ (v := ?_) (a' := ?_) rfl rfl (by kernel_rfl) (fun _ _ _ h => h) (Or.inl ⟨by rfl, ?_⟩) ?_ ?_
                                    rotate_left
                                    · intro w'; go_simp; with_reducible rfl
                                    rotate_left
                                    · simp only [Act.put, z8f76_q1, z8f76_q2, z8f76_q3, i64_w, i32_w]; rfl
                                    refine done_ (done_of HT_.out (by kernel_rfl)) ?_
                                    try go_wp2
                                    go_roundg k6
                                    case measure => have := HK1.out; have := HK2.out; have := HJ12.out; have := HK4.out; have := HK5.out; have := HK6.out; omega
                                    case rel => exact ⟨(x14_6), (wrap64 (x15_6 + 1)), (by first | rfl | (simp; done) | (simp [*]; done) | (simp [wrap64]; done) | (simp [wrap64]; omega)), (by first | rfl | (simp; done) | (simp [*]; done) | (simp [wrap64]; done) | (simp [wrap64]; omega)), H', ⟨by have := HK1.out; have := HK2.out; have := HJ12.out; have := HK4.out; have := HK5.out; have := HK6.out; omega⟩, ⟨by (with_reducible repeat (first | apply Kd.R_alloc | apply Kd.R_drewN | apply Kd.R_drew)); exact HO_10.out⟩, ⟨by (with_reducible repeat (first | apply Kd.R_alloc | apply Kd.R_drewN | apply Kd.R_drew)); exact HO_13.out⟩, ⟨by repeat (first | (with_reducible first | exact HB.out | apply below_alloc | apply pw_below_drewN | apply below_drew1) | exact HB.out)⟩⟩
                                  ·
                                   rw [if_neg c48] at H
                                   exact absurd H (by simp)
                                 ·
                                  rw [if_neg c47] at H
                                  exact absurd H (by simp)
                                ·
                                 rw [if_neg c46] at H
                                 exact absurd H (by simp)
                               ·
                                rw [if_neg c45] at H
                                exact absurd H (by simp)
                            ·
                             rw [if_neg c37] at H
                             exact absurd H (by simp)
                           ·
                            rw [if_neg c36] at H
                            exact absurd H (by simp)
                          ·
                           rw [if_neg c35] at H
                           have c35b0 : decide (x15_6 < (l1.length : Int)) = false := decide_eq_false c35
                           clear c35
                           by_cases c57 : 0 ≤ x14_6
                           ·
                            rw [if_pos c57] at H
                            have c57b0 : decide (0 ≤ x14_6) = true := decide_eq_true c57
                            clear c57
                            by_cases c58 : x14_6 < (x13_5.length : Int)
                            ·
                             rw [if_pos c58] at H
                             have c58b0 : decide (x14_6 < (x13_5.length : Int)) = true := decide_eq_true c58
                             clear c58
                             obtain ⟨y207, hy207⟩ : ∃ y_ : List Bool, y_ = (x13_5.set (x14_6 : Int).toNat true) := ⟨_, rfl⟩
                             replace H : (if x14_6 < (x10_5.length : Int) then (pledgeref10_Split.l3 k6 a0 l1 x6_2 (x10_5.set (x14_6 : Int).toNat (wrap64 ((rd x10_5 x14_6) + 1))) (wrap64 (x11_5 - 1)) y207) else (none)) = some (r1, r2) := by first | (rw [hy207]; with_reducible exact H) | (have H2_ := (Option.bind_some _ _).symm.trans H; rw [hy207]; with_reducible exact H2_) | (have H2_ := (Option.bind_some _ _).symm.trans H; with_reducible exact H2_) | with_reducible exact H | (rw [hy207]; exact H) | exact H
                             have Ny207 := Aside0.mk hy207
                             clear hy207
                             by_cases c60 : x14_6 < (x10_5.length : Int)
                             ·
                              rw [if_pos c60] at H
                              have c60b0 : decide (x14_6 < (x10_5.length : Int)) = true := decide_eq_true c60
                              clear c60
                              obtain ⟨y209, hy209⟩ : ∃ y_ : List Int, y_ = (x10_5.set (x14_6 : Int).toNat (wrap64 ((rd x10_5 x14_6) + 1))) := ⟨_, rfl⟩
                              replace H : (pledgeref10_Split.l3 k6 a0 l1 x6_2 y209 (wrap64 (x11_5 - 1)) y207) = some (r1, r2) := by first | (rw [hy209]; with_reducible exact H) | (have H2_ := (Option.bind_some _ _).symm.trans H; rw [hy209]; with_reducible exact H2_) | (have H2_ := (Option.bind_some _ _).symm.trans H; with_reducible exact H2_) | with_reducible exact H | (rw [hy209]; exact H) | exact H
                              have Ny209 := Aside0.mk hy209
                              clear hy209
                              have H' := Aside0.mk H
                              clear H
                              have p59 : 0 ≤ (x14_6 : Int) := of_decide_eq_true (by first | (with_reducible assumption) | assumption)
                              have q59 : (x14_6 : Int) < ((x13_5.length : Int) : Int) := of_decide_eq_true (by first | (with_reducible assumption) | assumption)
                              obtain ⟨go59, co59, eo59, gb59, gl59, cl59, HG59⟩ := Kd.R_form HO_13.out (by omega)
                              (first | cases eo59 | (injection eo59 with ea_ en_ ec_; (first | subst ea_ | (injection ea_ with ea_; subst ea_)); subst ec_; clear en_))
                              have GB59 := Aside0.mk gb59
                              have GG59 := Aside0.mk HG59
                              clear gb59 gl59 HG59
                              obtain ⟨hx59_0, hf59_0⟩ := Kd.R_celln false HO_13.out (x14_6 : Int) p59 q59
                              replace p59 := eq_true p59
                              replace q59 := eq_true q59
                              have HP62 := Kd.R_putg HO_13.out (x14_6 : Int) true
                              go_wp2_with (first | ((with_reducible refine gate_store (t := 4) (p := 135) rfl ?_); refine store_event (t := 4) (p := 135) (v := ?vo_w63) (w1 := (wr.setCell ⟨go59, (x14_6 : Int).toNat, none⟩ (.bool true))) ?hg ?ho ?hn ?hr ?_; (case ho => rfl); (case hg => rfl); (case hn => rfl); (case hr => first | (go_simp; done) | (go_simp; rfl)); intro w63 hw; have hg : wr.grownBy w63 (some go59) := (by rw [hw]; exact HP62.2); have hp_ : Kd.R Kd.bool 4 w63 w.heap.size (fun _ => True) (.slice (some ⟨go59, 0, none⟩) x13_5.length co59) y207 := (by rw [hw, Ny207.out]; exact HP62.1); clear HP62; have n0_ := Aside0.mk (Kd.R_over' (v := (.slice (some ⟨go59, 0, none⟩) x13_5.length co59)) (by (with_reducible repeat (first | apply Kd.R_alloc | apply Kd.R_drewN | apply Kd.R_drew)); exact HO_10.out) (Kd.R_typed HO_13.out) (by decide) hg); have n1_ := Aside0.mk (hp_); have n2_ := Aside0.mk ((by rw [hw]; exact below_set (HB.out) GB59.out : Below w.heap.size w w63)); clear HO_10; clear HO_13; clear HB; have HO_10 := n0_; have HO_13 := n1_; have HB := n2_; clear n0_ n1_ n2_; clear hg hw hp_; obtain ⟨Ao64, co64, eo64⟩ := Kd.R_slice HO_10.out; subst eo64; have p208 : 0 ≤ (x14_6 : Int) := of_decide_eq_true (by first | (with_reducible assumption) | assumption); have q208 : x14_6 < (x10_5.length : Int) := of_decide_eq_true (by first | (with_reducible assumption) | assumption); obtain ⟨ad208, e208, hx208_0⟩ := Kd.at_int (Kd.R_reads' HO_10.out).2.2 x14_6 p208 q208; cases e208; replace p208 := eq_true p208; replace q208 := eq_true q208; have p61 : 0 ≤ (x14_6 : Int) := of_decide_eq_true (by first | (with_reducible assumption) | assumption); have q61 : (x14_6 : Int) < ((x10_5.length : Int) : Int) := of_decide_eq_true (by first | (with_reducible assumption) | assumption); obtain ⟨go61, co61, eo61, gb61, gl61, cl61, HG61⟩ := Kd.R_form HO_10.out (by omega); (first | cases eo61 | (injection eo61 with ea_ en_ ec_; (first | subst ea_ | (injection ea_ with ea_; subst ea_)); subst ec_; clear en_)); have GB61 := Aside0.mk gb61; have GG61 := Aside0.mk HG61; clear gb61 gl61 HG61; (first | simp only [add_plain] at hx208_0 | skip); obtain ⟨hx61_0, hf61_0⟩ := Kd.R_celln 0 HO_10.out (x14_6 : Int) p61 q61; replace p61 := eq_true p61; replace q61 := eq_true q61; obtain ⟨hy65_, hz65_⟩ := Kd.R_celln 0 HO_10.out (x14_6 : Int) (of_decide_eq_true (by first | (with_reducible assumption) | assumption)) (of_decide_eq_true (by first | (with_reducible assumption) | assumption)); have HP65 := Kd.R_putg HO_10.out (x14_6 : Int) (wrap64 ((rd x10_5 x14_6) + 1))) | ((with_reducible refine gate_store (t := 2) (p := 143) rfl ?_); refine store_event (t := 2) (p := 143) (v := ?vo_w66) (w1 := (w63.setCell ⟨go61, (x14_6 : Int).toNat, none⟩ (.int .i64 (wrap64 ((rd x10_5 x14_6) + 1))))) ?hg ?ho ?hn ?hr ?_; (case ho => rfl); (case hg => rfl); (case hn => rfl); (case hr => first | (go_simp; done) | (go_simp; rfl)); intro w66 hw; have hg : w63.grownBy w66 (some go61) := (by rw [hw]; exact HP65.2); have hp_ : Kd.R (Kd.int .i64) 2 w66 w.heap.size (fun _ => True) (.slice (some ⟨go61, 0, none⟩) x10_5.length co64) y209 := (by rw [hw, Ny209.out]; exact HP65.1); clear HP65; have n0_ := Aside0.mk (hp_); have n1_ := Aside0.mk (Kd.R_over' (v := (.slice (some ⟨go61, 0, none⟩) x10_5.length co64)) (by (with_reducible repeat (first | apply Kd.R_alloc | apply Kd.R_drewN | apply Kd.R_drew)); exact HO_13.out) (Kd.R_typed HO_10.out) (by decide) hg); have n2_ := Aside0.mk ((by rw [hw]; exact below_set (HB.out) GB61.out : Below w.heap.size w w66)); clear HO_10; clear HO_13; clear HB; have HO_10 := n0_; have HO_13 := n1_; have HB := n2_; clear n0_ n1_ n2_; clear hg hw hp_))
                              go_roundg k6
                              case measure => have := HK1.out; have := HK2.out; have := HJ12.out; have := HK4.out; have := HK5.out; have := HK6.out; omega
                              case rel => exact ⟨(y209), (wrap64 (x11_5 - 1)), (y207), (by first | rfl | (simp; done) | (simp [*]; done) | (simp [wrap64]; done) | (simp [wrap64]; omega)), H', ⟨by have := HK1.out; have := HK2.out; have := HJ12.out; have := HK4.out; have := HK5.out; have := HK6.out; omega⟩, ⟨by (with_reducible repeat (first | apply Kd.R_alloc | apply Kd.R_drewN | apply Kd.R_drew)); exact HO_10.out⟩, ⟨by (with_reducible repeat (first | apply Kd.R_alloc | apply Kd.R_drewN | apply Kd.R_drew)); exact HO_13.out⟩, ⟨by repeat (first | (with_reducible first | exact HB.out | apply below_alloc | apply pw_below_drewN | apply below_drew1) | exact HB.out)⟩⟩
                             ·
                              rw [if_neg c60] at H
                              exact absurd H (by simp)
                            ·
                             rw [if_neg c58] at H
                             exact absurd H (by simp)
                           ·
                            rw [if_neg c57] at H
                            exact absurd H (by simp)
                       ·
                        rw [if_neg c34] at H
                        have c34b0 : decide (0 < x11_5) = false := decide_eq_false c34
                        clear c34
                        simp only [Option.some.injEq, Prod.mk.injEq] at H
                        obtain ⟨rfl, rfl⟩ := H
                        go_wp2
                        go_ret2
                        exact ⟨_, by first | rfl | (simp [errW_none, errW_some] <;> rfl) | (exfalso; simp_all; done) | (simp [*, errW_none, errW_some] <;> rfl), by (with_reducible repeat (first | apply Kd.R_alloc | apply Kd.R_drewN | apply Kd.R_drew)); exact HO_10.out, by repeat (first | (with_reducible first | exact HB.out | apply below_alloc | apply pw_below_drewN | apply below_drew1) | exact HB.out)⟩
                    ·
                     rw [if_neg c31] at H
                     exact absurd H (by simp)
                   ·
                    rw [if_neg c30] at H
                    exact absurd H (by simp)
              ·
               rw [if_neg c17] at H
               exact absurd H (by simp)
             ·
              rw [if_neg c16] at H
              exact absurd H (by simp)
     ·
      replace c9 := Bool.eq_false_iff.mpr c9
      subst c9
      have H1 : (some (([] : List Int), 103)) = some (r1, r2) := by rw [if_neg (show ¬ (false = true) by decide)] at H; exact H
      clear H
      have H := H1
      clear H1
      simp only [Option.some.injEq, Prod.mk.injEq] at H
      obtain ⟨rfl, rfl⟩ := H
      go_wp2
      go_ret2
      exact ⟨_, by first | rfl | (simp [errW_none, errW_some] <;> rfl) | (exfalso; simp_all; done) | (simp [*, errW_none, errW_some] <;> rfl), by first | exact Kd.R_nil _ _ _ _ _ | exact Kd.N_nil _ _ _ _ _ | exact Kd.V_nil _ _ _ _ _ | exact Kd.Q_nil _ _ _ _ _ | exact Kd.S_nil _ _ _ _ _, by repeat (first | (with_reducible first | exact HB.out | apply below_alloc | apply pw_below_drewN | apply below_drew1) | exact HB.out)⟩

end Go.Proofs.YtdmhmncplcokiaaDoor.EShareSays
