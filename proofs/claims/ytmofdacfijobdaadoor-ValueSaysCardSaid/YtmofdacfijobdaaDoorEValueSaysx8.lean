/- The functions that the law comes to, as plain functions, and for each a proof that the Go code comes to just these answers. Written by a program of this claim. Conditions: each theorem bears its own. -/
import Derived.Test.YtmofdacfijobdaaDoorEValueSaysx0
import Derived.Test.YtmofdacfijobdaaDoorEValueSaysx1
import Derived.Test.YtmofdacfijobdaaDoorEValueSaysx3
import Derived.Test.YtmofdacfijobdaaDoorEValueSaysx4
import Derived.Test.YtmofdacfijobdaaDoorEValueSaysx6
import Derived.Test.YtmofdacfijobdaaDoorEValueSaysx7
namespace Go.Proofs.YtmofdacfijobdaaDoor.EValueSays
open Go.RowKit Go.Proofs.YtmofdacfijobdaaDoorW.PrintWords Go.Proofs.YtmofdacfijobdaaDoorW.PrintLast Go.Proofs.YtmofdacfijobdaaDoorW.PrintMore Go.Proofs.YtmofdacfijobdaaDoorW.PrintOpen
attribute [local go_sem] max2_int min2_int max_two min_two max_three min_three max_four min_four   -- for this text's walks alone
set_option linter.unusedVariables false
set_option linter.unusedSimpArgs false

/-! ### pledgelaw15_ValueSays: function 3 -/
def pledgelaw15_ValueSays.j0 : Nat → Bool → Option (Bool)
 | 0, _ => none
 | k + 1, x6 => some x6
def pledgelaw15_ValueSays.f (k : Nat) (a0_0 : Int) (a0_1 : Int) (a0_2 : Int) (a0_3 : Int) (a0_4 : Int) (a1 : Int) (a2_0 : Int) (a2_1 : Int) (a2_2 : Bool) (a2_3 : Int) (a2_4 : Int) (a2_5 : Int) : Option (Bool) := (pledgelaw15_first.f k).bind fun t233 => (if t233 = true then ((value_Of.f k a0_0 a0_1 a0_2 a0_3 a0_4 a1 a2_0 a2_1 a2_2 a2_3 a2_4 a2_5).bind fun bt234 => ((pledgelaw15_other.f a2_0 a2_1 a2_2 a2_3 a2_4 a2_5).bind fun bt239 => ((pledgeref10_Value.f k a0_0 a0_1 a0_2 a0_3 a0_4 a1 bt239.1 bt239.2.1 bt239.2.2.1 bt239.2.2.2.1 bt239.2.2.2.2.1 bt239.2.2.2.2.2).bind fun bt245 => ((pledgesee_Is.f bt234.2.2.2 bt245.2.2.2).bind fun t250 => (if t250 = true then (if bt234.1 = bt245.1 then (if bt234.2.1 = bt245.2.1 then (if bt234.2.2.1 = bt245.2.2.1 then ((value_Counts.f a0_0 a0_1 a0_2 a0_3 a0_4 a2_0 a2_1 a2_2 a2_3 a2_4 a2_5).bind fun t251 => ((pledgelaw15_other.f a2_0 a2_1 a2_2 a2_3 a2_4 a2_5).bind fun bt252 => ((pledgeref10_Counts.f a0_0 a0_1 a0_2 a0_3 a0_4 bt252.1 bt252.2.1 bt252.2.2.1 bt252.2.2.2.1 bt252.2.2.2.2.1 bt252.2.2.2.2.2).bind fun t258 => (pledgelaw15_ValueSays.j0 k (t251 == t258))))) else (pledgelaw15_ValueSays.j0 k false)) else (pledgelaw15_ValueSays.j0 k false)) else (pledgelaw15_ValueSays.j0 k false)) else (pledgelaw15_ValueSays.j0 k false)))))) else (some false))
theorem pledgelaw15_ValueSays.mono_l : ∀ k, (∀ y0, LeO (pledgelaw15_ValueSays.j0 k y0) (pledgelaw15_ValueSays.j0 (k + 1) y0))
 | 0 => fun _ r h => by simp [pledgelaw15_ValueSays.j0] at h
 | k + 1 => by
  have ih0 := pledgelaw15_ValueSays.mono_l k
  ·
   intro y0
   unfold pledgelaw15_ValueSays.j0
   repeat' first
   | (with_reducible exact ih0 _)
   | (with_reducible exact pledgelaw15_first.mono _)
   | (with_reducible exact pledgeref10_Value.mono _ _ _ _ _ _ _ _ _ _ _ _ _)
   | (with_reducible exact value_Of.mono _ _ _ _ _ _ _ _ _ _ _ _ _)
   | (with_reducible exact LeO.refl _)
   | (with_reducible exact LeO.none _)
   | (with_reducible refine LeO.ite ?_ ?_)
   | (with_reducible refine LeO.bind ?_ (fun _ => ?_))
   | exact ih0 _
   | exact pledgelaw15_first.mono _
   | exact pledgeref10_Value.mono _ _ _ _ _ _ _ _ _ _ _ _ _
   | exact value_Of.mono _ _ _ _ _ _ _ _ _ _ _ _ _
   | exact LeO.none _
   | refine LeO.ite ?_ ?_
   | refine LeO.bind ?_ (fun _ => ?_)
theorem pledgelaw15_ValueSays.mono : ∀ a0 a1 a2 a3 a4 a5 a6 a7 a8 a9 a10 a11 k, LeO (pledgelaw15_ValueSays.f k a0 a1 a2 a3 a4 a5 a6 a7 a8 a9 a10 a11) (pledgelaw15_ValueSays.f (k + 1) a0 a1 a2 a3 a4 a5 a6 a7 a8 a9 a10 a11) := by
 intro a0 a1 a2 a3 a4 a5 a6 a7 a8 a9 a10 a11 k
 have ih0 := pledgelaw15_ValueSays.mono_l k
 unfold pledgelaw15_ValueSays.f
 repeat' first
   | (with_reducible exact ih0 _)
   | (with_reducible exact pledgelaw15_first.mono _)
   | (with_reducible exact pledgeref10_Value.mono _ _ _ _ _ _ _ _ _ _ _ _ _)
   | (with_reducible exact value_Of.mono _ _ _ _ _ _ _ _ _ _ _ _ _)
   | (with_reducible exact LeO.refl _)
   | (with_reducible exact LeO.none _)
   | (with_reducible refine LeO.ite ?_ ?_)
   | (with_reducible refine LeO.bind ?_ (fun _ => ?_))
   | exact ih0 _
   | exact pledgelaw15_first.mono _
   | exact pledgeref10_Value.mono _ _ _ _ _ _ _ _ _ _ _ _ _
   | exact value_Of.mono _ _ _ _ _ _ _ _ _ _ _ _ _
   | exact LeO.none _
   | refine LeO.ite ?_ ?_
   | refine LeO.bind ?_ (fun _ => ?_)
def pledgelaw15_ValueSays.T5 : Bool × List (List Nat × List Nat) := (true, [([], []), ([], []), ([], []), ([2], [2]), ([0, 1, 3, 3], [0, 1, 3]), ([4], [4]), ([5], [5]), ([5], [5]), ([], []), ([8, 6, 4, 0, 1, 2, 3, 4, 5, 6, 8], [6, 8]), ([7, 9, 0, 1, 2, 3, 4, 5, 6, 7, 8, 9], [7])])
def pledgelaw15_ValueSays.B5 : List Nat := [0, 0, 0, 4, 15, 31, 63, 63, 0, 383, 1023]
theorem pledgelaw15_ValueSays.tab5 : rtab .any (opsOf Tryd.f3 5) = pledgelaw15_ValueSays.T5 := by kernel_rfl
theorem pledgelaw15_ValueSays.bits5 : waitsOk pledgelaw15_ValueSays.T5.2 pledgelaw15_ValueSays.B5 = true := by kernel_rfl
def pledgelaw15_ValueSays.T6 : Bool × List (List Nat × List Nat) := (true, [([], []), ([0], [0]), ([1], [1]), ([1], [1]), ([2, 3, 1, 1], [1, 2, 3]), ([1, 4], [1, 4]), ([5, 4], [5]), ([6], [6]), ([7, 6], [6, 7]), ([6], [6]), ([9, 6], [6, 9]), ([8, 10, 6], [6, 8, 10]), ([6, 11], [6, 11]), ([12, 6], [12]), ([13], [13]), ([14, 13], [13, 14]), ([13], [13]), ([16, 13], [13, 16]), ([15, 17, 13], [13, 15, 17]), ([13, 18], [13, 18]), ([19, 13], [19]), ([20], [20]), ([21, 20], [20, 21]), ([20], [20]), ([23, 20], [20, 23]), ([22, 24, 20], [20, 22, 24]), ([20, 25], [20, 25]), ([26, 20], [26]), ([27], [27]), ([27], [27]), ([28, 29, 27, 27], [27, 28, 29]), ([27], [27]), ([27], [27]), ([32, 30, 27], [27, 32]), ([31, 33, 33, 27], [27, 31, 33]), ([30, 34, 27], [27, 30, 34]), ([27, 35], [27, 35]), ([36, 34, 0, 1, 2, 3, 4, 5, 6, 7, 8, 9, 10, 11, 12, 13, 14, 15, 16, 17, 18, 19, 20, 21, 22, 23, 24, 25, 26, 27, 28, 29, 30, 31, 32, 33, 34, 35, 36], [36])])
def pledgelaw15_ValueSays.B6 : List Nat := [0, 1, 3, 3, 15, 31, 63, 127, 255, 127, 639, 2047, 4095, 8191, 16383, 32767, 16383, 81919, 262143, 524287, 1048575, 2097151, 4194303, 2097151, 10485759, 33554431, 67108863, 134217727, 268435455, 268435455, 1073741823, 268435455, 268435455, 6442450943, 17179869183, 34359738367, 68719476735, 137438953471]
theorem pledgelaw15_ValueSays.tab6 : rtab .any (opsOf Tryd.f3 6) = pledgelaw15_ValueSays.T6 := by kernel_rfl
theorem pledgelaw15_ValueSays.bits6 : waitsOk pledgelaw15_ValueSays.T6.2 pledgelaw15_ValueSays.B6 = true := by kernel_rfl
theorem z80ad_q1 {α : Type} {l : List α} {i : Nat} {a : α} : l.toArray.setIfInBounds i a = (l.set i a).toArray := List.setIfInBounds_toArray ..
theorem z80ad_q2 {α : Type} {x : α} {l : List α} {a : α} : (x :: l).set 0 a = a :: l := rfl
theorem z80ad_q3 {α : Type} {x : α} {l : List α} {n : Nat} {a : α} : (x :: l).set n.succ a = x :: l.set n a := rfl
theorem z80ad_u {P : Program} {ops : Array Oper} {Q : Exit → Act → World → Prop} {md : Region.Mode} {S : World → Prop} {ds : List Nat} {T : Bool × List (List Nat × List Nat)} (i N : Nat) (l' : Array Bool) (hT : Aside0 (rtab md ops = T)) {oi : Oper} {v : Value} {fuel : Nat} {l : Array Bool} {a : Act} {w : World} (hi : ops[i]? = some oi) (hN : oi.dst = some N) (hc : anyT T l.toList l'.toList i = true)
  (hQ : ∀ c a w, Q (.panic c) (a.put oi.dst v) w → Q (.panic c) a w) (hy : Yields P ops oi v a) {a' : Act} (ha : a.put (some N) v = a')
  (h : wpAnyLast P md ops Q S ds fuel l' a' w) : wpAnyLast P md ops Q S ds (fuel + 1) l a w := pure_ l' hi hN (any_of hT.out hc) hQ hy ha h
abbrev z80ad_m0 : Array Bool := (fun o i : Bool => #[o,o,o,o,o,o,o,o,o,o,o]) false true
abbrev z80ad_m1 : Array Bool := (fun o i : Bool => #[o,i,o,o,o,o,o,o,o,o,o]) false true
abbrev z80ad_m2 : Array Bool := (fun o i : Bool => #[i,i,o,o,o,o,o,o,o,o,o]) false true
abbrev z80ad_m3 : Array Bool := (fun o i : Bool => #[i,i,i,o,o,o,o,o,o,o,o]) false true
abbrev z80ad_m4 : Array Bool := (fun o i : Bool => #[i,i,i,i,i,i,i,i,i,o,o]) false true
abbrev z80ad_m5 : Array Bool := (fun o i : Bool => #[i,i,i,i,o,o,o,o,o,o,o]) false true
abbrev z80ad_m6 : Array Bool := (fun o i : Bool => #[i,i,i,o,o,o,o,o,i,o,o]) false true
abbrev z80ad_m7 : Array Bool := (fun o i : Bool => #[i,i,i,i,i,o,o,o,o,o,o]) false true
abbrev z80ad_m8 : Array Bool := (fun o i : Bool => #[i,i,i,i,o,o,o,o,i,o,o]) false true
abbrev z80ad_m9 : Array Bool := (fun o i : Bool => #[i,i,i,i,i,i,o,o,o,o,o]) false true
abbrev z80ad_m10 : Array Bool := (fun o i : Bool => #[i,i,i,i,i,i,i,o,o,o,o]) false true
abbrev z80ad_m11 : Array Bool := (fun o i : Bool => #[i,i,i,i,i,i,i,i,o,o,o]) false true
abbrev z80ad_m12 : Array Bool := (fun o i : Bool => #[i,i,i,i,i,o,o,o,i,o,o]) false true
abbrev z80ad_m13 : Array Bool := (fun o i : Bool => #[i,i,i,i,i,i,o,o,i,o,o]) false true
abbrev z80ad_m14 : Array Bool := (fun o i : Bool => #[i,i,i,i,i,i,i,o,i,o,o]) false true
abbrev z80ad_m15 : Array Bool := (fun o i : Bool => #[i,i,i,i,i,i,i,i,i,i,o]) false true
abbrev z80ad_m16 : Array Bool := (fun o i : Bool => #[i,i,i,i,i,i,i,i,i,i,i]) false true
abbrev z80ad_m17 : Array Bool := (fun o i : Bool => #[o,o,o,o,o,o,o,o,o,o,o,o,o,o,o,o,o,o,o,o,o,o,o,o,o,o,o,o,o,o,o,o,o,o,o,o,o,o]) false true
abbrev z80ad_m18 : Array Bool := (fun o i : Bool => #[i,o,o,o,o,o,o,o,o,o,o,o,o,o,o,o,o,o,o,o,o,o,o,o,o,o,o,o,o,o,o,o,o,o,o,o,o,o]) false true
abbrev z80ad_m19 : Array Bool := (fun o i : Bool => #[i,i,o,o,o,o,o,o,o,o,o,o,o,o,o,o,o,o,o,o,o,o,o,o,o,o,o,o,o,o,o,o,o,o,o,o,o,o]) false true
abbrev z80ad_m20 : Array Bool := (fun o i : Bool => #[i,i,i,o,o,o,o,o,o,o,o,o,o,o,o,o,o,o,o,o,o,o,o,o,o,o,o,o,o,o,o,o,o,o,o,o,o,o]) false true
abbrev z80ad_m21 : Array Bool := (fun o i : Bool => #[i,i,i,i,o,o,o,o,o,o,o,o,o,o,o,o,o,o,o,o,o,o,o,o,o,o,o,o,o,o,o,o,o,o,o,o,o,o]) false true
abbrev z80ad_m22 : Array Bool := (fun o i : Bool => #[i,i,i,i,i,o,o,o,o,o,o,o,o,o,o,o,o,o,o,o,o,o,o,o,o,o,o,o,o,o,o,o,o,o,o,o,o,o]) false true
abbrev z80ad_m23 : Array Bool := (fun o i : Bool => #[i,i,i,i,i,i,o,o,o,o,o,o,o,o,o,o,o,o,o,o,o,o,o,o,o,o,o,o,o,o,o,o,o,o,o,o,o,o]) false true
abbrev z80ad_m24 : Array Bool := (fun o i : Bool => #[i,i,i,i,i,i,i,o,o,o,o,o,o,o,o,o,o,o,o,o,o,o,o,o,o,o,o,o,o,o,o,o,o,o,o,o,o,o]) false true
abbrev z80ad_m25 : Array Bool := (fun o i : Bool => #[i,i,i,i,i,i,i,i,o,o,o,o,o,o,o,o,o,o,o,o,o,o,o,o,o,o,o,o,o,o,o,o,o,o,o,o,o,o]) false true
abbrev z80ad_m26 : Array Bool := (fun o i : Bool => #[i,i,i,i,i,i,i,i,o,i,o,o,o,o,o,o,o,o,o,o,o,o,o,o,o,o,o,o,o,o,o,o,o,o,o,o,o,o]) false true
abbrev z80ad_m27 : Array Bool := (fun o i : Bool => #[i,i,i,i,i,i,i,i,i,i,o,o,o,o,o,o,o,o,o,o,o,o,o,o,o,o,o,o,o,o,o,o,o,o,o,o,o,o]) false true
abbrev z80ad_m28 : Array Bool := (fun o i : Bool => #[i,i,i,i,i,i,i,i,i,i,i,o,o,o,o,o,o,o,o,o,o,o,o,o,o,o,o,o,o,o,o,o,o,o,o,o,o,o]) false true
abbrev z80ad_m29 : Array Bool := (fun o i : Bool => #[i,i,i,i,i,i,i,i,i,i,i,i,o,o,o,o,o,o,o,o,o,o,o,o,o,o,o,o,o,o,o,o,o,o,o,o,o,o]) false true
abbrev z80ad_m30 : Array Bool := (fun o i : Bool => #[i,i,i,i,i,i,i,i,i,i,i,i,i,o,o,o,o,o,o,o,o,o,o,o,o,o,o,o,o,o,o,o,o,o,o,o,o,o]) false true
abbrev z80ad_m31 : Array Bool := (fun o i : Bool => #[i,i,i,i,i,i,i,i,i,i,i,i,i,i,o,o,o,o,o,o,o,o,o,o,o,o,o,o,o,o,o,o,o,o,o,o,o,o]) false true
abbrev z80ad_m32 : Array Bool := (fun o i : Bool => #[i,i,i,i,i,i,i,i,i,i,i,i,i,i,i,o,o,o,o,o,o,o,o,o,o,o,o,o,o,o,o,o,o,o,o,o,o,o]) false true
abbrev z80ad_m33 : Array Bool := (fun o i : Bool => #[i,i,i,i,i,i,i,i,i,i,i,i,i,i,i,o,i,o,o,o,o,o,o,o,o,o,o,o,o,o,o,o,o,o,o,o,o,o]) false true
abbrev z80ad_m34 : Array Bool := (fun o i : Bool => #[i,i,i,i,i,i,i,i,i,i,i,i,i,i,i,i,i,o,o,o,o,o,o,o,o,o,o,o,o,o,o,o,o,o,o,o,o,o]) false true
abbrev z80ad_m35 : Array Bool := (fun o i : Bool => #[i,i,i,i,i,i,i,i,i,i,i,i,i,i,i,i,i,i,o,o,o,o,o,o,o,o,o,o,o,o,o,o,o,o,o,o,o,o]) false true
abbrev z80ad_m36 : Array Bool := (fun o i : Bool => #[i,i,i,i,i,i,i,i,i,i,i,i,i,i,i,i,i,i,i,o,o,o,o,o,o,o,o,o,o,o,o,o,o,o,o,o,o,o]) false true
abbrev z80ad_m37 : Array Bool := (fun o i : Bool => #[i,i,i,i,i,i,i,i,i,i,i,i,i,i,i,i,i,i,i,i,o,o,o,o,o,o,o,o,o,o,o,o,o,o,o,o,o,o]) false true
abbrev z80ad_m38 : Array Bool := (fun o i : Bool => #[i,i,i,i,i,i,i,i,i,i,i,i,i,i,i,i,i,i,i,i,i,o,o,o,o,o,o,o,o,o,o,o,o,o,o,o,o,o]) false true
abbrev z80ad_m39 : Array Bool := (fun o i : Bool => #[i,i,i,i,i,i,i,i,i,i,i,i,i,i,i,i,i,i,i,i,i,i,o,o,o,o,o,o,o,o,o,o,o,o,o,o,o,o]) false true
abbrev z80ad_m40 : Array Bool := (fun o i : Bool => #[i,i,i,i,i,i,i,i,i,i,i,i,i,i,i,i,i,i,i,i,i,i,o,i,o,o,o,o,o,o,o,o,o,o,o,o,o,o]) false true
abbrev z80ad_m41 : Array Bool := (fun o i : Bool => #[i,i,i,i,i,i,i,i,i,i,i,i,i,i,i,i,i,i,i,i,i,i,i,i,o,o,o,o,o,o,o,o,o,o,o,o,o,o]) false true
abbrev z80ad_m42 : Array Bool := (fun o i : Bool => #[i,i,i,i,i,i,i,i,i,i,i,i,i,i,i,i,i,i,i,i,i,i,i,i,i,o,o,o,o,o,o,o,o,o,o,o,o,o]) false true
abbrev z80ad_m43 : Array Bool := (fun o i : Bool => #[i,i,i,i,i,i,i,i,i,i,i,i,i,i,i,i,i,i,i,i,i,i,i,i,i,i,o,o,o,o,o,o,o,o,o,o,o,o]) false true
abbrev z80ad_m44 : Array Bool := (fun o i : Bool => #[i,i,i,i,i,i,i,i,i,i,i,i,i,i,i,i,i,i,i,i,i,i,i,i,i,i,i,o,o,o,o,o,o,o,o,o,o,o]) false true
abbrev z80ad_m45 : Array Bool := (fun o i : Bool => #[i,i,i,i,i,i,i,i,i,i,i,i,i,i,i,i,i,i,i,i,i,i,i,i,i,i,i,i,o,o,o,o,o,o,o,o,o,o]) false true
abbrev z80ad_m46 : Array Bool := (fun o i : Bool => #[i,i,i,i,i,i,i,i,i,i,i,i,i,i,i,i,i,i,i,i,i,i,i,i,i,i,i,i,i,o,o,o,o,o,o,o,o,o]) false true
abbrev z80ad_m47 : Array Bool := (fun o i : Bool => #[i,i,i,i,i,i,i,i,i,i,i,i,i,i,i,i,i,i,i,i,i,i,i,i,i,i,i,i,i,i,o,o,o,o,o,o,o,o]) false true
abbrev z80ad_m48 : Array Bool := (fun o i : Bool => #[i,i,i,i,i,i,i,i,i,i,i,i,i,i,i,i,i,i,i,i,i,i,i,i,i,i,i,i,i,i,o,i,o,o,o,o,o,o]) false true
abbrev z80ad_m49 : Array Bool := (fun o i : Bool => #[i,i,i,i,i,i,i,i,i,i,i,i,i,i,i,i,i,i,i,i,i,i,i,i,i,i,i,i,i,i,o,i,i,o,o,o,o,o]) false true
abbrev z80ad_m50 : Array Bool := (fun o i : Bool => #[i,i,i,i,i,i,i,i,i,i,i,i,i,i,i,i,i,i,i,i,i,i,i,i,i,i,i,i,i,i,i,i,i,o,o,o,o,o]) false true
abbrev z80ad_m51 : Array Bool := (fun o i : Bool => #[i,i,i,i,i,i,i,i,i,i,i,i,i,i,i,i,i,i,i,i,i,i,i,i,i,i,i,i,i,i,i,i,i,i,o,o,o,o]) false true
abbrev z80ad_m52 : Array Bool := (fun o i : Bool => #[i,i,i,i,i,i,i,i,i,i,i,i,i,i,i,i,i,i,i,i,i,i,i,i,i,i,i,i,i,i,i,i,i,i,i,o,o,o]) false true
abbrev z80ad_m53 : Array Bool := (fun o i : Bool => #[i,i,i,i,i,i,i,i,i,i,i,i,i,i,i,i,i,i,i,i,i,i,i,i,i,i,i,i,i,i,i,i,i,i,i,i,o,o]) false true
abbrev z80ad_m54 : Array Bool := (fun o i : Bool => #[i,i,i,i,i,i,i,i,i,i,i,i,i,i,i,i,i,i,i,i,i,i,i,i,i,i,i,i,i,i,i,i,i,i,i,i,i,o]) false true
abbrev z80ad_m55 : Array Bool := (fun o i : Bool => #[i,i,i,i,i,i,i,i,i,i,i,i,i,i,i,i,i,i,i,i,i,i,i,i,i,i,i,i,i,i,i,i,i,i,i,i,i,i]) false true
abbrev z80ad_m56 : Array Bool := (fun o i : Bool => #[i,i,i,i,i,i,i,i,i,i,i,i,i,i,i,i,i,i,i,i,i,i,i,i,i,i,i,i,i,i,i,o,o,o,o,o,o,o]) false true
abbrev z80ad_m57 : Array Bool := (fun o i : Bool => #[i,i,i,i,i,i,i,i,i,i,i,i,i,i,i,i,i,i,i,i,i,i,i,i,i,i,i,i,i,i,i,i,o,o,o,o,o,o]) false true
abbrev z80ad_m58 : Array Bool := (fun o i : Bool => #[i,i,i,i,i,i,i,i,i,i,i,i,i,i,i,i,i,i,i,i,i,i,i,o,o,o,o,o,o,o,o,o,o,o,o,o,o,o]) false true
abbrev z80ad_m59 : Array Bool := (fun o i : Bool => #[i,i,i,i,i,i,i,i,i,i,i,i,i,i,i,i,o,o,o,o,o,o,o,o,o,o,o,o,o,o,o,o,o,o,o,o,o,o]) false true
abbrev z80ad_m60 : Array Bool := (fun o i : Bool => #[i,i,i,i,i,i,i,i,i,o,o,o,o,o,o,o,o,o,o,o,o,o,o,o,o,o,o,o,o,o,o,o,o,o,o,o,o,o]) false true
set_option maxHeartbeats 8000000 in
set_option maxRecDepth 100000 in
theorem pledgelaw15_ValueSays.calls [Inhabited (Int → Addr)] (k : Nat) (a0_0 : Int) (a0_1 : Int) (a0_2 : Int) (a0_3 : Int) (a0_4 : Int) (a1 : Int) (a2_0 : Int) (a2_1 : Int) (a2_2 : Bool) (a2_3 : Int) (a2_4 : Int) (a2_5 : Int) (r : Bool) (w : World) (hG : GlobOK w) (h : pledgelaw15_ValueSays.f k a0_0 a0_1 a0_2 a0_3 a0_4 a1 a2_0 a2_1 a2_2 a2_3 a2_4 a2_5 = some r) :
  Calls Tryd.prog 3 #[.agg #[.int .i64 a0_0, .int .i64 a0_1, .int .i64 a0_2, .int .i64 a0_3, .int .i64 a0_4], .int .i64 a1, .agg #[.int .i64 a2_0, .int .i64 a2_1, .bool a2_2, .int .i64 a2_3, .int .i64 a2_4, .int .i64 a2_5]] w fun e w' => e = .returned (.bool r) ∧ Below w.heap.size w w' := by
 have hu23 := Tryd.underlying23
 have hu25 := Tryd.underlying25
 have hu28 := Tryd.underlying28
 have hu33 := Tryd.underlying33
 have HG := Aside0.mk hG
 clear hG
 have HB := Aside0.mk (Below.refl w.heap.size w)
 have H : ((pledgelaw15_first.f k).bind fun t233 => (if t233 = true then ((value_Of.f k a0_0 a0_1 a0_2 a0_3 a0_4 a1 a2_0 a2_1 a2_2 a2_3 a2_4 a2_5).bind fun bt234 => ((pledgelaw15_other.f a2_0 a2_1 a2_2 a2_3 a2_4 a2_5).bind fun bt239 => ((pledgeref10_Value.f k a0_0 a0_1 a0_2 a0_3 a0_4 a1 bt239.1 bt239.2.1 bt239.2.2.1 bt239.2.2.2.1 bt239.2.2.2.2.1 bt239.2.2.2.2.2).bind fun bt245 => ((pledgesee_Is.f bt234.2.2.2 bt245.2.2.2).bind fun t250 => (if t250 = true then (if bt234.1 = bt245.1 then (if bt234.2.1 = bt245.2.1 then (if bt234.2.2.1 = bt245.2.2.1 then ((value_Counts.f a0_0 a0_1 a0_2 a0_3 a0_4 a2_0 a2_1 a2_2 a2_3 a2_4 a2_5).bind fun t251 => ((pledgelaw15_other.f a2_0 a2_1 a2_2 a2_3 a2_4 a2_5).bind fun bt252 => ((pledgeref10_Counts.f a0_0 a0_1 a0_2 a0_3 a0_4 bt252.1 bt252.2.1 bt252.2.2.1 bt252.2.2.2.1 bt252.2.2.2.2.1 bt252.2.2.2.2.2).bind fun t258 => (pledgelaw15_ValueSays.j0 k (t251 == t258))))) else (pledgelaw15_ValueSays.j0 k false)) else (pledgelaw15_ValueSays.j0 k false)) else (pledgelaw15_ValueSays.j0 k false)) else (pledgelaw15_ValueSays.j0 k false)))))) else (some false))) = some r := h
 clear h
 replace H := Option.bind_eq_some_iff.mp H
 obtain ⟨t233, A40, H⟩ := H
 replace H : (if t233 = true then ((value_Of.f k a0_0 a0_1 a0_2 a0_3 a0_4 a1 a2_0 a2_1 a2_2 a2_3 a2_4 a2_5).bind fun bt234 => ((pledgelaw15_other.f a2_0 a2_1 a2_2 a2_3 a2_4 a2_5).bind fun bt239 => ((pledgeref10_Value.f k a0_0 a0_1 a0_2 a0_3 a0_4 a1 bt239.1 bt239.2.1 bt239.2.2.1 bt239.2.2.2.1 bt239.2.2.2.2.1 bt239.2.2.2.2.2).bind fun bt245 => ((pledgesee_Is.f bt234.2.2.2 bt245.2.2.2).bind fun t250 => (if t250 = true then (if bt234.1 = bt245.1 then (if bt234.2.1 = bt245.2.1 then (if bt234.2.2.1 = bt245.2.2.1 then ((value_Counts.f a0_0 a0_1 a0_2 a0_3 a0_4 a2_0 a2_1 a2_2 a2_3 a2_4 a2_5).bind fun t251 => ((pledgelaw15_other.f a2_0 a2_1 a2_2 a2_3 a2_4 a2_5).bind fun bt252 => ((pledgeref10_Counts.f a0_0 a0_1 a0_2 a0_3 a0_4 bt252.1 bt252.2.1 bt252.2.2.1 bt252.2.2.2.1 bt252.2.2.2.2.1 bt252.2.2.2.2.2).bind fun t258 => (pledgelaw15_ValueSays.j0 k (t251 == t258))))) else (pledgelaw15_ValueSays.j0 k false)) else (pledgelaw15_ValueSays.j0 k false)) else (pledgelaw15_ValueSays.j0 k false)) else (pledgelaw15_ValueSays.j0 k false)))))) else (some false)) = some r := H
 have A4 := Aside0.mk A40
 clear A40
 by_cases c5 : t233 = true
 ·
  subst c5
  have H1 : ((value_Of.f k a0_0 a0_1 a0_2 a0_3 a0_4 a1 a2_0 a2_1 a2_2 a2_3 a2_4 a2_5).bind fun bt234 => ((pledgelaw15_other.f a2_0 a2_1 a2_2 a2_3 a2_4 a2_5).bind fun bt239 => ((pledgeref10_Value.f k a0_0 a0_1 a0_2 a0_3 a0_4 a1 bt239.1 bt239.2.1 bt239.2.2.1 bt239.2.2.2.1 bt239.2.2.2.2.1 bt239.2.2.2.2.2).bind fun bt245 => ((pledgesee_Is.f bt234.2.2.2 bt245.2.2.2).bind fun t250 => (if t250 = true then (if bt234.1 = bt245.1 then (if bt234.2.1 = bt245.2.1 then (if bt234.2.2.1 = bt245.2.2.1 then ((value_Counts.f a0_0 a0_1 a0_2 a0_3 a0_4 a2_0 a2_1 a2_2 a2_3 a2_4 a2_5).bind fun t251 => ((pledgelaw15_other.f a2_0 a2_1 a2_2 a2_3 a2_4 a2_5).bind fun bt252 => ((pledgeref10_Counts.f a0_0 a0_1 a0_2 a0_3 a0_4 bt252.1 bt252.2.1 bt252.2.2.1 bt252.2.2.2.1 bt252.2.2.2.2.1 bt252.2.2.2.2.2).bind fun t258 => (pledgelaw15_ValueSays.j0 k (t251 == t258))))) else (pledgelaw15_ValueSays.j0 k false)) else (pledgelaw15_ValueSays.j0 k false)) else (pledgelaw15_ValueSays.j0 k false)) else (pledgelaw15_ValueSays.j0 k false)))))) = some r := by rw [if_pos rfl] at H; exact H
  clear H
  have H := H1
  clear H1
  replace H := Option.bind_eq_some_iff.mp H
  obtain ⟨⟨t234, t235, t236, t237⟩, A60, H⟩ := H
  replace H : ((pledgelaw15_other.f a2_0 a2_1 a2_2 a2_3 a2_4 a2_5).bind fun bt239 => ((pledgeref10_Value.f k a0_0 a0_1 a0_2 a0_3 a0_4 a1 bt239.1 bt239.2.1 bt239.2.2.1 bt239.2.2.2.1 bt239.2.2.2.2.1 bt239.2.2.2.2.2).bind fun bt245 => ((pledgesee_Is.f t237 bt245.2.2.2).bind fun t250 => (if t250 = true then (if t234 = bt245.1 then (if t235 = bt245.2.1 then (if t236 = bt245.2.2.1 then ((value_Counts.f a0_0 a0_1 a0_2 a0_3 a0_4 a2_0 a2_1 a2_2 a2_3 a2_4 a2_5).bind fun t251 => ((pledgelaw15_other.f a2_0 a2_1 a2_2 a2_3 a2_4 a2_5).bind fun bt252 => ((pledgeref10_Counts.f a0_0 a0_1 a0_2 a0_3 a0_4 bt252.1 bt252.2.1 bt252.2.2.1 bt252.2.2.2.1 bt252.2.2.2.2.1 bt252.2.2.2.2.2).bind fun t258 => (pledgelaw15_ValueSays.j0 k (t251 == t258))))) else (pledgelaw15_ValueSays.j0 k false)) else (pledgelaw15_ValueSays.j0 k false)) else (pledgelaw15_ValueSays.j0 k false)) else (pledgelaw15_ValueSays.j0 k false))))) = some r := H
  have A6 := Aside0.mk A60
  clear A60
  replace H := Option.bind_eq_some_iff.mp H
  obtain ⟨⟨t239, t240, t241, t242, t243, t244⟩, A70, H⟩ := H
  replace H : ((pledgeref10_Value.f k a0_0 a0_1 a0_2 a0_3 a0_4 a1 t239 t240 t241 t242 t243 t244).bind fun bt245 => ((pledgesee_Is.f t237 bt245.2.2.2).bind fun t250 => (if t250 = true then (if t234 = bt245.1 then (if t235 = bt245.2.1 then (if t236 = bt245.2.2.1 then ((value_Counts.f a0_0 a0_1 a0_2 a0_3 a0_4 a2_0 a2_1 a2_2 a2_3 a2_4 a2_5).bind fun t251 => ((pledgelaw15_other.f a2_0 a2_1 a2_2 a2_3 a2_4 a2_5).bind fun bt252 => ((pledgeref10_Counts.f a0_0 a0_1 a0_2 a0_3 a0_4 bt252.1 bt252.2.1 bt252.2.2.1 bt252.2.2.2.1 bt252.2.2.2.2.1 bt252.2.2.2.2.2).bind fun t258 => (pledgelaw15_ValueSays.j0 k (t251 == t258))))) else (pledgelaw15_ValueSays.j0 k false)) else (pledgelaw15_ValueSays.j0 k false)) else (pledgelaw15_ValueSays.j0 k false)) else (pledgelaw15_ValueSays.j0 k false)))) = some r := H
  have A7 := Aside0.mk A70
  clear A70
  replace H := Option.bind_eq_some_iff.mp H
  obtain ⟨⟨t245, t246, t247, t248⟩, A80, H⟩ := H
  replace H : ((pledgesee_Is.f t237 t248).bind fun t250 => (if t250 = true then (if t234 = t245 then (if t235 = t246 then (if t236 = t247 then ((value_Counts.f a0_0 a0_1 a0_2 a0_3 a0_4 a2_0 a2_1 a2_2 a2_3 a2_4 a2_5).bind fun t251 => ((pledgelaw15_other.f a2_0 a2_1 a2_2 a2_3 a2_4 a2_5).bind fun bt252 => ((pledgeref10_Counts.f a0_0 a0_1 a0_2 a0_3 a0_4 bt252.1 bt252.2.1 bt252.2.2.1 bt252.2.2.2.1 bt252.2.2.2.2.1 bt252.2.2.2.2.2).bind fun t258 => (pledgelaw15_ValueSays.j0 k (t251 == t258))))) else (pledgelaw15_ValueSays.j0 k false)) else (pledgelaw15_ValueSays.j0 k false)) else (pledgelaw15_ValueSays.j0 k false)) else (pledgelaw15_ValueSays.j0 k false))) = some r := H
  have A8 := Aside0.mk A80
  clear A80
  have HC9 := Aside0.mk H
  clear H
  go_enter Tryd.func3, Tryd.ntmps3
  try go_wp2_with (first | ((with_reducible refine gate_dst (N := 3) rfl ?_); refine box_event ?hg (N := 3) ?hd (cs := #[.int .i64 a0_0, .int .i64 a0_1, .int .i64 a0_2, .int .i64 a0_3, .int .i64 a0_4]) (t := 23) ?hr ?_; (case hd => rfl); (case hg => rfl); (case hr => first | (go_simp; done) | (go_simp; rfl)); intro gb231 hg w10 hbox hb; have n0_ := Aside0.mk (below_step (by repeat (first | (with_reducible first | exact HB.out | apply below_alloc | apply pw_below_drewN | apply below_drew1) | exact HB.out)) hb); have n1_ := Aside0.mk (hbox); have n2_ := Aside0.mk ((by rw [hg]; exact (below_size (by repeat (first | (with_reducible first | exact HB.out | apply below_alloc | apply pw_below_drewN | apply below_drew1) | exact HB.out))) : w.heap.size ≤ gb231)); have n3_ := Aside0.mk ((by rw [hg]; exact (below_size (by repeat (first | (with_reducible first | exact HB.out | apply below_alloc | apply pw_below_drewN | apply below_drew1) | exact HB.out))) : w.heap.size ≤ gb231)); clear HB; have HB := n0_; have BK231 := n1_; have GW231 := n2_; have GE231 := n3_; clear n0_ n1_ n2_ n3_; clear hb hbox hg) | ((with_reducible refine gate_dst (N := 5) rfl ?_); refine box_event ?hg (N := 5) ?hd (cs := #[.int .i64 a2_0, .int .i64 a2_1, .bool a2_2, .int .i64 a2_3, .int .i64 a2_4, .int .i64 a2_5]) (t := 25) ?hr ?_; (case hd => rfl); (case hg => rfl); (case hr => first | (go_simp; done) | (go_simp; rfl)); intro gb232 hg w11 hbox hb; have n0_ := Aside0.mk (blk_below (g := gb231) (o := .cells #[.int .i64 a0_0, .int .i64 a0_1, .int .i64 a0_2, .int .i64 a0_3, .int .i64 a0_4] 23 (0, 0)) (by (with_reducible repeat (first | refine blk_drewN ?_ _ | refine blk_drew ?_ | refine blk_alloc ?_ _)); exact BK231.out) hb); have n1_ := Aside0.mk (below_step (by repeat (first | (with_reducible first | exact HB.out | apply below_alloc | apply pw_below_drewN | apply below_drew1 | refine below_set ?_ GE231.out) | exact HB.out)) hb); have n2_ := Aside0.mk (hbox); have n3_ := Aside0.mk ((by rw [hg]; exact (below_size (by repeat (first | (with_reducible first | exact HB.out | apply below_alloc | apply pw_below_drewN | apply below_drew1 | refine below_set ?_ GE231.out) | exact HB.out))) : w.heap.size ≤ gb232)); have n4_ := Aside0.mk ((by rw [hg]; exact (below_size (by repeat (first | (with_reducible first | exact HB.out | apply below_alloc | apply pw_below_drewN | apply below_drew1 | refine below_set ?_ GE231.out) | exact HB.out))) : w.heap.size ≤ gb232)); have n5_ := Aside0.mk ((by rw [hg]; exact Nat.ne_of_lt (blk_lt (g := gb231) (o := .cells #[.int .i64 a0_0, .int .i64 a0_1, .int .i64 a0_2, .int .i64 a0_3, .int .i64 a0_4] 23 (0, 0)) (by (with_reducible repeat (first | refine blk_drewN ?_ _ | refine blk_drew ?_ | refine blk_alloc ?_ _)); exact BK231.out)) : gb231 ≠ gb232)); have n6_ := Aside0.mk ((by rw [hg]; exact Nat.ne_of_gt (blk_lt (g := gb231) (o := .cells #[.int .i64 a0_0, .int .i64 a0_1, .int .i64 a0_2, .int .i64 a0_3, .int .i64 a0_4] 23 (0, 0)) (by (with_reducible repeat (first | refine blk_drewN ?_ _ | refine blk_drew ?_ | refine blk_alloc ?_ _)); exact BK231.out)) : gb232 ≠ gb231)); clear BK231; clear HB; have BK231 := n0_; have HB := n1_; have BK232 := n2_; have GW232 := n3_; have GE232 := n4_; have NB231_232 := n5_; have NB232_231 := n6_; clear n0_ n1_ n2_ n3_ n4_ n5_ n6_; clear hb hbox hg) | ((with_reducible refine gate_callee (f := 7) rfl ?_); refine goesL_ (some 12) rfl rfl Tryd.func7 (by kernel_rfl) rfl #[] rfl (by (try simp only [List.map_toArray, List.map_cons, List.map_nil]); first | done | rfl | (simp only [List.length_drop, List.length_take]; rfl)) ?_; (with_reducible refine (pledgelaw15_first.calls k  true _ ?side1 A4.out).mono ?_); (case side1 => exact GlobOK.below HG.out (by repeat (first | (with_reducible first | exact HB.out | apply below_alloc | apply pw_below_drewN | apply below_drew1 | refine below_set ?_ GE231.out | refine below_set ?_ GE232.out) | exact HB.out))); rintro e w12 ⟨rfl, hb⟩; refine ⟨_, rfl, ?_⟩; have n0_ := Aside0.mk (blk_below (g := gb231) (o := .cells #[.int .i64 a0_0, .int .i64 a0_1, .int .i64 a0_2, .int .i64 a0_3, .int .i64 a0_4] 23 (0, 0)) (by (with_reducible repeat (first | refine blk_drewN ?_ _ | refine blk_drew ?_ | refine blk_alloc ?_ _)); exact BK231.out) hb); have n1_ := Aside0.mk (blk_below (g := gb232) (o := .cells #[.int .i64 a2_0, .int .i64 a2_1, .bool a2_2, .int .i64 a2_3, .int .i64 a2_4, .int .i64 a2_5] 25 (0, 0)) (by (with_reducible repeat (first | refine blk_drewN ?_ _ | refine blk_drew ?_ | refine blk_alloc ?_ _)); exact BK232.out) hb); have n2_ := Aside0.mk (below_step (by repeat (first | (with_reducible first | exact HB.out | apply below_alloc | apply pw_below_drewN | apply below_drew1 | refine below_set ?_ GE231.out | refine below_set ?_ GE232.out) | exact HB.out)) hb); clear BK231; clear BK232; clear HB; have BK231 := n0_; have BK232 := n1_; have HB := n2_; clear n0_ n1_ n2_; (try clear hb); (try clear hb2); (try clear hk); (try clear hi); have hnb13 := NB231_232.out; have hnc13 := NB232_231.out; have hcz14_0 : w12.cell? ⟨gb231, 0, none⟩ = some (.int .i64 a0_0) := (blk_cell BK231.out 0).trans rfl; have hcz14_1 : w12.cell? ⟨gb231, 1, none⟩ = some (.int .i64 a0_1) := (blk_cell BK231.out 1).trans rfl; have hcz14_2 : w12.cell? ⟨gb231, 2, none⟩ = some (.int .i64 a0_2) := (blk_cell BK231.out 2).trans rfl; have hcz14_3 : w12.cell? ⟨gb231, 3, none⟩ = some (.int .i64 a0_3) := (blk_cell BK231.out 3).trans rfl; have hcz14_4 : w12.cell? ⟨gb231, 4, none⟩ = some (.int .i64 a0_4) := (blk_cell BK231.out 4).trans rfl; have hfz14_0 := blk_frozen BK231.out 0; have hfz14_1 := blk_frozen BK231.out 1; have hfz14_2 := blk_frozen BK231.out 2; have hfz14_3 := blk_frozen BK231.out 3; have hfz14_4 := blk_frozen BK231.out 4; have hcz15_0 : w12.cell? ⟨gb232, 0, none⟩ = some (.int .i64 a2_0) := (blk_cell BK232.out 0).trans rfl; have hcz15_1 : w12.cell? ⟨gb232, 1, none⟩ = some (.int .i64 a2_1) := (blk_cell BK232.out 1).trans rfl; have hcz15_2 : w12.cell? ⟨gb232, 2, none⟩ = some (.bool a2_2) := (blk_cell BK232.out 2).trans rfl; have hcz15_3 : w12.cell? ⟨gb232, 3, none⟩ = some (.int .i64 a2_3) := (blk_cell BK232.out 3).trans rfl; have hcz15_4 : w12.cell? ⟨gb232, 4, none⟩ = some (.int .i64 a2_4) := (blk_cell BK232.out 4).trans rfl; have hcz15_5 : w12.cell? ⟨gb232, 5, none⟩ = some (.int .i64 a2_5) := (blk_cell BK232.out 5).trans rfl; have hfz15_0 := blk_frozen BK232.out 0; have hfz15_1 := blk_frozen BK232.out 1; have hfz15_2 := blk_frozen BK232.out 2; have hfz15_3 := blk_frozen BK232.out 3; have hfz15_4 := blk_frozen BK232.out 4; have hfz15_5 := blk_frozen BK232.out 5) | ((with_reducible refine gate_callee (f := 8) rfl ?_); refine goesL_ (some 19) rfl rfl Tryd.func8 (by kernel_rfl) rfl #[.agg #[.int .i64 a0_0, .int .i64 a0_1, .int .i64 a0_2, .int .i64 a0_3, .int .i64 a0_4], .int .i64 a1, .agg #[.int .i64 a2_0, .int .i64 a2_1, .bool a2_2, .int .i64 a2_3, .int .i64 a2_4, .int .i64 a2_5]] rfl (by (try simp only [List.map_toArray, List.map_cons, List.map_nil]); first | done | rfl | (simp only [List.length_drop, List.length_take]; rfl)) ?_; (with_reducible refine (value_Of.calls k a0_0 a0_1 a0_2 a0_3 a0_4 a1 a2_0 a2_1 a2_2 a2_3 a2_4 a2_5 t234 t235 t236 t237 _ ?side1 A6.out).mono ?_); (case side1 => exact GlobOK.below HG.out (by repeat (first | (with_reducible first | exact HB.out | apply below_alloc | apply pw_below_drewN | apply below_drew1 | refine below_set ?_ GE231.out | refine below_set ?_ GE232.out) | exact HB.out))); rintro e w16 ⟨rfl, hb⟩; refine ⟨_, rfl, ?_⟩; have n0_ := Aside0.mk (blk_below (g := gb231) (o := .cells #[.int .i64 a0_0, .int .i64 a0_1, .int .i64 a0_2, .int .i64 a0_3, .int .i64 a0_4] 23 (0, 0)) (by (with_reducible repeat (first | refine blk_drewN ?_ _ | refine blk_drew ?_ | refine blk_alloc ?_ _)); exact BK231.out) hb); have n1_ := Aside0.mk (blk_below (g := gb232) (o := .cells #[.int .i64 a2_0, .int .i64 a2_1, .bool a2_2, .int .i64 a2_3, .int .i64 a2_4, .int .i64 a2_5] 25 (0, 0)) (by (with_reducible repeat (first | refine blk_drewN ?_ _ | refine blk_drew ?_ | refine blk_alloc ?_ _)); exact BK232.out) hb); have n2_ := Aside0.mk (below_step (by repeat (first | (with_reducible first | exact HB.out | apply below_alloc | apply pw_below_drewN | apply below_drew1 | refine below_set ?_ GE231.out | refine below_set ?_ GE232.out) | exact HB.out)) hb); clear BK231; clear BK232; clear HB; have BK231 := n0_; have BK232 := n1_; have HB := n2_; clear n0_ n1_ n2_; (try clear hb); (try clear hb2); (try clear hk); (try clear hi); (try simp only [errW_none, errW_some])) | ((with_reducible refine gate_dst (N := 8) rfl ?_); refine box_event ?hg (N := 8) ?hd (cs := #[.int .i64 0, .int .i64 0, .int .i64 0]) (t := 28) ?hr ?_; (case hd => rfl); (case hg => rfl); (case hr => first | (go_simp; done) | (go_simp; rfl)); intro gb238 hg w17 hbox hb; have n0_ := Aside0.mk (blk_below (g := gb231) (o := .cells #[.int .i64 a0_0, .int .i64 a0_1, .int .i64 a0_2, .int .i64 a0_3, .int .i64 a0_4] 23 (0, 0)) (by (with_reducible repeat (first | refine blk_drewN ?_ _ | refine blk_drew ?_ | refine blk_alloc ?_ _)); exact BK231.out) hb); have n1_ := Aside0.mk (blk_below (g := gb232) (o := .cells #[.int .i64 a2_0, .int .i64 a2_1, .bool a2_2, .int .i64 a2_3, .int .i64 a2_4, .int .i64 a2_5] 25 (0, 0)) (by (with_reducible repeat (first | refine blk_drewN ?_ _ | refine blk_drew ?_ | refine blk_alloc ?_ _)); exact BK232.out) hb); have n2_ := Aside0.mk (below_step (by repeat (first | (with_reducible first | exact HB.out | apply below_alloc | apply pw_below_drewN | apply below_drew1 | refine below_set ?_ GE231.out | refine below_set ?_ GE232.out) | exact HB.out)) hb); have n3_ := Aside0.mk (hbox); have n4_ := Aside0.mk ((by rw [hg]; exact (below_size (by repeat (first | (with_reducible first | exact HB.out | apply below_alloc | apply pw_below_drewN | apply below_drew1 | refine below_set ?_ GE231.out | refine below_set ?_ GE232.out) | exact HB.out))) : w.heap.size ≤ gb238)); have n5_ := Aside0.mk ((by rw [hg]; exact (below_size (by repeat (first | (with_reducible first | exact HB.out | apply below_alloc | apply pw_below_drewN | apply below_drew1 | refine below_set ?_ GE231.out | refine below_set ?_ GE232.out) | exact HB.out))) : w.heap.size ≤ gb238)); have n6_ := Aside0.mk ((by rw [hg]; exact Nat.ne_of_lt (blk_lt (g := gb231) (o := .cells #[.int .i64 a0_0, .int .i64 a0_1, .int .i64 a0_2, .int .i64 a0_3, .int .i64 a0_4] 23 (0, 0)) (by (with_reducible repeat (first | refine blk_drewN ?_ _ | refine blk_drew ?_ | refine blk_alloc ?_ _)); exact BK231.out)) : gb231 ≠ gb238)); have n7_ := Aside0.mk ((by rw [hg]; exact Nat.ne_of_gt (blk_lt (g := gb231) (o := .cells #[.int .i64 a0_0, .int .i64 a0_1, .int .i64 a0_2, .int .i64 a0_3, .int .i64 a0_4] 23 (0, 0)) (by (with_reducible repeat (first | refine blk_drewN ?_ _ | refine blk_drew ?_ | refine blk_alloc ?_ _)); exact BK231.out)) : gb238 ≠ gb231)); have n8_ := Aside0.mk ((by rw [hg]; exact Nat.ne_of_lt (blk_lt (g := gb232) (o := .cells #[.int .i64 a2_0, .int .i64 a2_1, .bool a2_2, .int .i64 a2_3, .int .i64 a2_4, .int .i64 a2_5] 25 (0, 0)) (by (with_reducible repeat (first | refine blk_drewN ?_ _ | refine blk_drew ?_ | refine blk_alloc ?_ _)); exact BK232.out)) : gb232 ≠ gb238)); have n9_ := Aside0.mk ((by rw [hg]; exact Nat.ne_of_gt (blk_lt (g := gb232) (o := .cells #[.int .i64 a2_0, .int .i64 a2_1, .bool a2_2, .int .i64 a2_3, .int .i64 a2_4, .int .i64 a2_5] 25 (0, 0)) (by (with_reducible repeat (first | refine blk_drewN ?_ _ | refine blk_drew ?_ | refine blk_alloc ?_ _)); exact BK232.out)) : gb238 ≠ gb232)); clear BK231; clear BK232; clear HB; have BK231 := n0_; have BK232 := n1_; have HB := n2_; have BK238 := n3_; have GW238 := n4_; have GE238 := n5_; have NB231_238 := n6_; have NB238_231 := n7_; have NB232_238 := n8_; have NB238_232 := n9_; clear n0_ n1_ n2_ n3_ n4_ n5_ n6_ n7_ n8_ n9_; clear hb hbox hg; have hnb18 := NB238_231.out; have hnc18 := NB231_238.out; have hnb19 := NB238_232.out; have hnc19 := NB232_238.out; have hcz20_0 : w17.cell? ⟨gb238, 0, none⟩ = some (.int .i64 0) := (blk_cell BK238.out 0).trans rfl; have hcz20_1 : w17.cell? ⟨gb238, 1, none⟩ = some (.int .i64 0) := (blk_cell BK238.out 1).trans rfl; have hcz20_2 : w17.cell? ⟨gb238, 2, none⟩ = some (.int .i64 0) := (blk_cell BK238.out 2).trans rfl; have hfz20_0 := blk_frozen BK238.out 0; have hfz20_1 := blk_frozen BK238.out 1; have hfz20_2 := blk_frozen BK238.out 2))
  have n0_ : Aside0 ((((w17.setCell ⟨gb238, 0, none⟩ (.int .i64 t234)).setCell ⟨gb238, 1, none⟩ (.int .i64 t235)).setCell ⟨gb238, 2, none⟩ (.int .i64 t236)).heap[gb231]? = some (.cells #[.int .i64 a0_0, .int .i64 a0_1, .int .i64 a0_2, .int .i64 a0_3, .int .i64 a0_4] 23 (0, 0))) := ⟨by (with_reducible repeat (first | refine blk_drewN ?_ _ | refine blk_drew ?_ | refine blk_alloc ?_ _ | refine blk_far ?_ NB231_238.out _)); exact BK231.out⟩
  have n1_ : Aside0 ((((w17.setCell ⟨gb238, 0, none⟩ (.int .i64 t234)).setCell ⟨gb238, 1, none⟩ (.int .i64 t235)).setCell ⟨gb238, 2, none⟩ (.int .i64 t236)).heap[gb232]? = some (.cells #[.int .i64 a2_0, .int .i64 a2_1, .bool a2_2, .int .i64 a2_3, .int .i64 a2_4, .int .i64 a2_5] 25 (0, 0))) := ⟨by (with_reducible repeat (first | refine blk_drewN ?_ _ | refine blk_drew ?_ | refine blk_alloc ?_ _ | refine blk_far ?_ NB232_238.out _)); exact BK232.out⟩
  have n2_ : Aside0 ((((w17.setCell ⟨gb238, 0, none⟩ (.int .i64 t234)).setCell ⟨gb238, 1, none⟩ (.int .i64 t235)).setCell ⟨gb238, 2, none⟩ (.int .i64 t236)).heap[gb238]? = some (.cells #[.int .i64 t234, .int .i64 t235, .int .i64 t236] 28 (0, 0))) := ⟨by (with_reducible repeat (first | refine blk_drewN ?_ _ | refine blk_drew ?_ | refine blk_alloc ?_ _)); refine blk_put (cs := #[.int .i64 t234, .int .i64 t235, .int .i64 0]) ?_ 2 _ rfl; (with_reducible repeat (first | refine blk_drewN ?_ _ | refine blk_drew ?_ | refine blk_alloc ?_ _)); refine blk_put (cs := #[.int .i64 t234, .int .i64 0, .int .i64 0]) ?_ 1 _ rfl; (with_reducible repeat (first | refine blk_drewN ?_ _ | refine blk_drew ?_ | refine blk_alloc ?_ _)); refine blk_put (cs := #[.int .i64 0, .int .i64 0, .int .i64 0]) ?_ 0 _ rfl; (with_reducible repeat (first | refine blk_drewN ?_ _ | refine blk_drew ?_ | refine blk_alloc ?_ _)); exact BK238.out⟩
  have n3_ : Aside0 (Below w.heap.size w (((w17.setCell ⟨gb238, 0, none⟩ (.int .i64 t234)).setCell ⟨gb238, 1, none⟩ (.int .i64 t235)).setCell ⟨gb238, 2, none⟩ (.int .i64 t236))) := ⟨by repeat (first | (with_reducible first | exact HB.out | apply below_alloc | apply pw_below_drewN | apply below_drew1 | refine below_set ?_ GE231.out | refine below_set ?_ GE232.out | refine below_set ?_ GE238.out) | exact HB.out)⟩
  (try clear BK231)
  (try clear BK232)
  (try clear BK238)
  (try clear HB)
  generalize (((w17.setCell ⟨gb238, 0, none⟩ (.int .i64 t234)).setCell ⟨gb238, 1, none⟩ (.int .i64 t235)).setCell ⟨gb238, 2, none⟩ (.int .i64 t236)) = w21 at n0_ n1_ n2_ n3_ ⊢
  have BK231 := n0_
  have BK232 := n1_
  have BK238 := n2_
  have HB := n3_
  clear n0_ n1_ n2_ n3_
  have n0_ := Aside0.mk (blk_drew BK231.out)
  have n1_ := Aside0.mk (blk_drew BK232.out)
  have n2_ := Aside0.mk (blk_drew BK238.out)
  have n3_ := Aside0.mk (below_drew1 HB.out)
  clear BK231
  clear BK232
  clear BK238
  clear HB
  have BK231 := n0_
  have BK232 := n1_
  have BK238 := n2_
  have HB := n3_
  clear n0_ n1_ n2_ n3_
  refine start_ (n := 11) (S := fun w' => w'.cell? ⟨gb231, 0, none⟩ = some (.int .i64 a0_0) ∧ w'.cell? ⟨gb231, 1, none⟩ = some (.int .i64 a0_1) ∧ w'.cell? ⟨gb231, 2, none⟩ = some (.int .i64 a0_2) ∧ w'.cell? ⟨gb231, 3, none⟩ = some (.int .i64 a0_3) ∧ w'.cell? ⟨gb231, 4, none⟩ = some (.int .i64 a0_4) ∧ w'.cell? ⟨gb232, 0, none⟩ = some (.int .i64 a2_0) ∧ w'.cell? ⟨gb232, 1, none⟩ = some (.int .i64 a2_1) ∧ w'.cell? ⟨gb232, 2, none⟩ = some (.bool a2_2) ∧ w'.cell? ⟨gb232, 3, none⟩ = some (.int .i64 a2_3) ∧ w'.cell? ⟨gb232, 4, none⟩ = some (.int .i64 a2_4) ∧ w'.cell? ⟨gb232, 5, none⟩ = some (.int .i64 a2_5)) (ds := []) z80ad_m0 (by kernel_rfl) rfl rfl ⟨(blk_cell BK231.out 0).trans rfl, (blk_cell BK231.out 1).trans rfl, (blk_cell BK231.out 2).trans rfl, (blk_cell BK231.out 3).trans rfl, (blk_cell BK231.out 4).trans rfl, (blk_cell BK232.out 0).trans rfl, (blk_cell BK232.out 1).trans rfl, (blk_cell BK232.out 2).trans rfl, (blk_cell BK232.out 3).trans rfl, (blk_cell BK232.out 4).trans rfl, (blk_cell BK232.out 5).trans rfl⟩ (fun hHeld => ?_); refine with_tabW pledgelaw15_ValueSays.tab5 pledgelaw15_ValueSays.bits5 (fun HT_ HW_ => ?_)
  generalize w21.drew = w22 at BK231 BK232 BK238 HB hHeld ⊢
  refine z80ad_u 1 24 z80ad_m1 HT_ (v := ?_) (a' := ?_) rfl rfl (by kernel_rfl) (fun _ _ _ h => h) (Or.inl ⟨by rfl, ?_⟩) ?_ ?_
  rotate_left
  · intro w'; go_simp; with_reducible rfl
  rotate_left
  · simp only [Act.put, z80ad_q1, z80ad_q2, z80ad_q3, i64_w, i32_w]; rfl
  refine take_ (i := 0) (N := some 23) (v := ?_) (a' := ?_) z80ad_m2 rfl rfl (take_ofW HT_.out HW_.out (by kernel_rfl)) (fun _ _ _ h => h) (Or.inl ⟨by rfl, ?_⟩) hHeld ?_ ?_
  rotate_left
  ·
   rintro w' ⟨s0, s1, s2, s3, s4, s5, s6, s7, s8, s9, s10⟩
   go_simp
   with_reducible rfl
  rotate_left
  · simp only [Act.put, z80ad_q1, z80ad_q2, z80ad_q3, i64_w, i32_w]; rfl
  refine take_ (i := 2) (N := some 25) (v := ?_) (a' := ?_) z80ad_m3 rfl rfl (take_ofW HT_.out HW_.out (by kernel_rfl)) (fun _ _ _ h => h) (Or.inl ⟨by rfl, ?_⟩) hHeld ?_ ?_
  rotate_left
  ·
   rintro w' ⟨s0, s1, s2, s3, s4, s5, s6, s7, s8, s9, s10⟩
   go_simp
   with_reducible rfl
  rotate_left
  · simp only [Act.put, z80ad_q1, z80ad_q2, z80ad_q3, i64_w, i32_w]; rfl
  refine join_ (σ := Nat) 2 z80ad_m4 (fun s_ => [(26, .agg #[.int .i64 t239, .int .i64 t240, .bool t241, .int .i64 t242, .int .i64 t243, .int .i64 t244]), (27, .tuple #[.agg #[.int .i64 t245, .int .i64 t246, .int .i64 t247], .int .i64 t248]), (10, .pointer (some ⟨s_, 0, none⟩)), (22, .tuple #[.agg #[.int .i64 t245, .int .i64 t246, .int .i64 t247], .int .i64 t248]), (28, .agg #[.int .i64 t245, .int .i64 t246, .int .i64 t247]), (29, .int .i64 t248)]) (fun s_ w' => (w'.cell? ⟨gb231, 0, none⟩ = some (.int .i64 a0_0) ∧ w'.cell? ⟨gb231, 1, none⟩ = some (.int .i64 a0_1) ∧ w'.cell? ⟨gb231, 2, none⟩ = some (.int .i64 a0_2) ∧ w'.cell? ⟨gb231, 3, none⟩ = some (.int .i64 a0_3) ∧ w'.cell? ⟨gb231, 4, none⟩ = some (.int .i64 a0_4) ∧ w'.cell? ⟨gb232, 0, none⟩ = some (.int .i64 a2_0) ∧ w'.cell? ⟨gb232, 1, none⟩ = some (.int .i64 a2_1) ∧ w'.cell? ⟨gb232, 2, none⟩ = some (.bool a2_2) ∧ w'.cell? ⟨gb232, 3, none⟩ = some (.int .i64 a2_3) ∧ w'.cell? ⟨gb232, 4, none⟩ = some (.int .i64 a2_4) ∧ w'.cell? ⟨gb232, 5, none⟩ = some (.int .i64 a2_5)) ∧ (w'.heap[gb231]? = some (.cells #[.int .i64 a0_0, .int .i64 a0_1, .int .i64 a0_2, .int .i64 a0_3, .int .i64 a0_4] 23 (0, 0))) ∧ (w'.heap[gb232]? = some (.cells #[.int .i64 a2_0, .int .i64 a2_1, .bool a2_2, .int .i64 a2_3, .int .i64 a2_4, .int .i64 a2_5] 25 (0, 0))) ∧ (w'.heap[gb238]? = some (.cells #[.int .i64 t234, .int .i64 t235, .int .i64 t236] 28 (0, 0))) ∧ (w'.heap[s_]? = some (.cells #[.int .i64 0, .int .i64 0, .int .i64 0] 33 (0, 0))) ∧ (w.heap.size ≤ s_) ∧ (w.heap.size ≤ s_) ∧ (gb231 ≠ s_) ∧ (s_ ≠ gb231) ∧ (gb232 ≠ s_) ∧ (s_ ≠ gb232) ∧ (gb238 ≠ s_) ∧ (s_ ≠ gb238) ∧ (Below w.heap.size w w')) ?_ ?_
  rotate_left
  ·
   intro hCont
   refine two_ (i := 3) (j := 8) (Ni := some 26) (Nj := some 10) z80ad_m5 z80ad_m6 rfl rfl rfl rfl (two_of HT_.out (by kernel_rfl)) (by decide) (by decide) (fun K hK => ?_) (fun K hK => ?_)
   ·
    skip
    refine goes_ Tryd.func10 (by kernel_rfl) rfl #[.agg #[.int .i64 a2_0, .int .i64 a2_1, .bool a2_2, .int .i64 a2_3, .int .i64 a2_4, .int .i64 a2_5]] (by rfl) rfl rfl (by (try simp only [List.map_toArray, List.map_cons, List.map_nil]); first | done | rfl | (simp only [List.length_drop, List.length_take]; rfl)) ?_
    with_reducible refine (pledgelaw15_other.calls a2_0 a2_1 a2_2 a2_3 a2_4 a2_5 t239 t240 t241 t242 t243 t244 _ A7.out).mono ?_
    rintro e w23 ⟨rfl, hb⟩
    refine ⟨_, rfl, ?_⟩
    have n0_ := Aside0.mk (blk_below (g := gb231) (o := .cells #[.int .i64 a0_0, .int .i64 a0_1, .int .i64 a0_2, .int .i64 a0_3, .int .i64 a0_4] 23 (0, 0)) (by (with_reducible repeat (first | refine blk_drewN ?_ _ | refine blk_drew ?_ | refine blk_alloc ?_ _)); exact BK231.out) hb)
    have n1_ := Aside0.mk (blk_below (g := gb232) (o := .cells #[.int .i64 a2_0, .int .i64 a2_1, .bool a2_2, .int .i64 a2_3, .int .i64 a2_4, .int .i64 a2_5] 25 (0, 0)) (by (with_reducible repeat (first | refine blk_drewN ?_ _ | refine blk_drew ?_ | refine blk_alloc ?_ _)); exact BK232.out) hb)
    have n2_ := Aside0.mk (blk_below (g := gb238) (o := .cells #[.int .i64 t234, .int .i64 t235, .int .i64 t236] 28 (0, 0)) (by (with_reducible repeat (first | refine blk_drewN ?_ _ | refine blk_drew ?_ | refine blk_alloc ?_ _)); exact BK238.out) hb)
    have n3_ := Aside0.mk (below_step (by repeat (first | (with_reducible first | exact HB.out | apply below_alloc | apply pw_below_drewN | apply below_drew1 | refine below_set ?_ GE231.out | refine below_set ?_ GE232.out | refine below_set ?_ GE238.out) | exact HB.out)) hb)
    clear BK231
    clear BK232
    clear BK238
    clear HB
    have BK231 := n0_
    have BK232 := n1_
    have BK238 := n2_
    have HB := n3_
    clear n0_ n1_ n2_ n3_
    (try clear hb)
    (try clear hb2)
    (try clear hk)
    (try clear hi)
    refine hK.out _ _ ⟨(blk_cell BK231.out 0).trans rfl, (blk_cell BK231.out 1).trans rfl, (blk_cell BK231.out 2).trans rfl, (blk_cell BK231.out 3).trans rfl, (blk_cell BK231.out 4).trans rfl, (blk_cell BK232.out 0).trans rfl, (blk_cell BK232.out 1).trans rfl, (blk_cell BK232.out 2).trans rfl, (blk_cell BK232.out 3).trans rfl, (blk_cell BK232.out 4).trans rfl, (blk_cell BK232.out 5).trans rfl⟩ (fun hHeld => ?_)
    clear hK K
    refine norm_ (a' := ?_) ?_ ?_
    rotate_left
    ·
     show Act.put _ (some 26) _ = _
     simp only [Act.put, z80ad_q1, z80ad_q2, z80ad_q3, i64_w, i32_w]
     rfl
    refine two_ (i := 4) (j := 8) (Ni := some 27) (Nj := some 10) z80ad_m7 z80ad_m8 rfl rfl rfl rfl (two_of HT_.out (by kernel_rfl)) (by decide) (by decide) (fun K hK => ?_) (fun K hK => ?_)
    ·
     skip
     refine goes_ Tryd.func9 (by kernel_rfl) rfl #[.agg #[.int .i64 a0_0, .int .i64 a0_1, .int .i64 a0_2, .int .i64 a0_3, .int .i64 a0_4], .int .i64 a1, .agg #[.int .i64 t239, .int .i64 t240, .bool t241, .int .i64 t242, .int .i64 t243, .int .i64 t244]] (by rfl) rfl rfl (by (try simp only [List.map_toArray, List.map_cons, List.map_nil]); first | done | rfl | (simp only [List.length_drop, List.length_take]; rfl)) ?_
     with_reducible refine (pledgeref10_Value.calls k a0_0 a0_1 a0_2 a0_3 a0_4 a1 t239 t240 t241 t242 t243 t244 t245 t246 t247 t248 _ A8.out).mono ?_
     rintro e w24 ⟨rfl, hb⟩
     refine ⟨_, rfl, ?_⟩
     have n0_ := Aside0.mk (blk_below (g := gb231) (o := .cells #[.int .i64 a0_0, .int .i64 a0_1, .int .i64 a0_2, .int .i64 a0_3, .int .i64 a0_4] 23 (0, 0)) (by (with_reducible repeat (first | refine blk_drewN ?_ _ | refine blk_drew ?_ | refine blk_alloc ?_ _)); exact BK231.out) hb)
     have n1_ := Aside0.mk (blk_below (g := gb232) (o := .cells #[.int .i64 a2_0, .int .i64 a2_1, .bool a2_2, .int .i64 a2_3, .int .i64 a2_4, .int .i64 a2_5] 25 (0, 0)) (by (with_reducible repeat (first | refine blk_drewN ?_ _ | refine blk_drew ?_ | refine blk_alloc ?_ _)); exact BK232.out) hb)
     have n2_ := Aside0.mk (blk_below (g := gb238) (o := .cells #[.int .i64 t234, .int .i64 t235, .int .i64 t236] 28 (0, 0)) (by (with_reducible repeat (first | refine blk_drewN ?_ _ | refine blk_drew ?_ | refine blk_alloc ?_ _)); exact BK238.out) hb)
     have n3_ := Aside0.mk (below_step (by repeat (first | (with_reducible first | exact HB.out | apply below_alloc | apply pw_below_drewN | apply below_drew1 | refine below_set ?_ GE231.out | refine below_set ?_ GE232.out | refine below_set ?_ GE238.out) | exact HB.out)) hb)
     clear BK231
     clear BK232
     clear BK238
     clear HB
     have BK231 := n0_
     have BK232 := n1_
     have BK238 := n2_
     have HB := n3_
     clear n0_ n1_ n2_ n3_
     (try clear hb)
     (try clear hb2)
     (try clear hk)
     (try clear hi)
     refine hK.out _ _ ⟨(blk_cell BK231.out 0).trans rfl, (blk_cell BK231.out 1).trans rfl, (blk_cell BK231.out 2).trans rfl, (blk_cell BK231.out 3).trans rfl, (blk_cell BK231.out 4).trans rfl, (blk_cell BK232.out 0).trans rfl, (blk_cell BK232.out 1).trans rfl, (blk_cell BK232.out 2).trans rfl, (blk_cell BK232.out 3).trans rfl, (blk_cell BK232.out 4).trans rfl, (blk_cell BK232.out 5).trans rfl⟩ (fun hHeld => ?_)
     clear hK K
     refine norm_ (a' := ?_) ?_ ?_
     rotate_left
     ·
      show Act.put _ (some 27) _ = _
      simp only [Act.put, z80ad_q1, z80ad_q2, z80ad_q3, i64_w, i32_w]
      rfl
     refine z80ad_u 5 22 z80ad_m9 HT_ (v := ?_) (a' := ?_) rfl rfl (by kernel_rfl) (fun _ _ _ h => h) (Or.inl ⟨by rfl, ?_⟩) ?_ ?_
     rotate_left
     · intro w'; go_simp; with_reducible rfl
     rotate_left
     · simp only [Act.put, z80ad_q1, z80ad_q2, z80ad_q3, i64_w, i32_w]; rfl
     refine z80ad_u 6 28 z80ad_m10 HT_ (v := ?_) (a' := ?_) rfl rfl (by kernel_rfl) (fun _ _ _ h => h) (Or.inl ⟨by rfl, ?_⟩) ?_ ?_
     rotate_left
     · intro w'; go_simp; with_reducible rfl
     rotate_left
     · simp only [Act.put, z80ad_q1, z80ad_q2, z80ad_q3, i64_w, i32_w]; rfl
     refine z80ad_u 7 29 z80ad_m11 HT_ (v := ?_) (a' := ?_) rfl rfl (by kernel_rfl) (fun _ _ _ h => h) (Or.inl ⟨by rfl, ?_⟩) ?_ ?_
     rotate_left
     · intro w'; go_simp; with_reducible rfl
     rotate_left
     · simp only [Act.put, z80ad_q1, z80ad_q2, z80ad_q3, i64_w, i32_w]; rfl
     refine one_ (i := 8) (N := some 10) z80ad_m4 rfl rfl (one_of HT_.out (by kernel_rfl)) (by decide) (fun K hK => ?_)
     refine box_step ?hg (N := 10) ?hd (cs := #[.int .i64 0, .int .i64 0, .int .i64 0]) (t := 33) ?hr ?_; (case hd => rfl); (case hg => rfl); (case hr => first | (go_simp; done) | (go_simp; rfl))
     intro gb249 hg w25 hbox hb
     have n0_ := Aside0.mk (blk_below (g := gb231) (o := .cells #[.int .i64 a0_0, .int .i64 a0_1, .int .i64 a0_2, .int .i64 a0_3, .int .i64 a0_4] 23 (0, 0)) (by (with_reducible repeat (first | refine blk_drewN ?_ _ | refine blk_drew ?_ | refine blk_alloc ?_ _)); exact BK231.out) hb)
     have n1_ := Aside0.mk (blk_below (g := gb232) (o := .cells #[.int .i64 a2_0, .int .i64 a2_1, .bool a2_2, .int .i64 a2_3, .int .i64 a2_4, .int .i64 a2_5] 25 (0, 0)) (by (with_reducible repeat (first | refine blk_drewN ?_ _ | refine blk_drew ?_ | refine blk_alloc ?_ _)); exact BK232.out) hb)
     have n2_ := Aside0.mk (blk_below (g := gb238) (o := .cells #[.int .i64 t234, .int .i64 t235, .int .i64 t236] 28 (0, 0)) (by (with_reducible repeat (first | refine blk_drewN ?_ _ | refine blk_drew ?_ | refine blk_alloc ?_ _)); exact BK238.out) hb)
     have n3_ := Aside0.mk (below_step (by repeat (first | (with_reducible first | exact HB.out | apply below_alloc | apply pw_below_drewN | apply below_drew1 | refine below_set ?_ GE231.out | refine below_set ?_ GE232.out | refine below_set ?_ GE238.out) | exact HB.out)) hb)
     have n4_ := Aside0.mk (hbox)
     have n5_ := Aside0.mk ((by rw [hg]; exact (below_size (by repeat (first | (with_reducible first | exact HB.out | apply below_alloc | apply pw_below_drewN | apply below_drew1 | refine below_set ?_ GE231.out | refine below_set ?_ GE232.out | refine below_set ?_ GE238.out) | exact HB.out))) : w.heap.size ≤ gb249))
     have n6_ := Aside0.mk ((by rw [hg]; exact (below_size (by repeat (first | (with_reducible first | exact HB.out | apply below_alloc | apply pw_below_drewN | apply below_drew1 | refine below_set ?_ GE231.out | refine below_set ?_ GE232.out | refine below_set ?_ GE238.out) | exact HB.out))) : w.heap.size ≤ gb249))
     have n7_ := Aside0.mk ((by rw [hg]; exact Nat.ne_of_lt (blk_lt (g := gb231) (o := .cells #[.int .i64 a0_0, .int .i64 a0_1, .int .i64 a0_2, .int .i64 a0_3, .int .i64 a0_4] 23 (0, 0)) (by (with_reducible repeat (first | refine blk_drewN ?_ _ | refine blk_drew ?_ | refine blk_alloc ?_ _)); exact BK231.out)) : gb231 ≠ gb249))
     have n8_ := Aside0.mk ((by rw [hg]; exact Nat.ne_of_gt (blk_lt (g := gb231) (o := .cells #[.int .i64 a0_0, .int .i64 a0_1, .int .i64 a0_2, .int .i64 a0_3, .int .i64 a0_4] 23 (0, 0)) (by (with_reducible repeat (first | refine blk_drewN ?_ _ | refine blk_drew ?_ | refine blk_alloc ?_ _)); exact BK231.out)) : gb249 ≠ gb231))
     have n9_ := Aside0.mk ((by rw [hg]; exact Nat.ne_of_lt (blk_lt (g := gb232) (o := .cells #[.int .i64 a2_0, .int .i64 a2_1, .bool a2_2, .int .i64 a2_3, .int .i64 a2_4, .int .i64 a2_5] 25 (0, 0)) (by (with_reducible repeat (first | refine blk_drewN ?_ _ | refine blk_drew ?_ | refine blk_alloc ?_ _)); exact BK232.out)) : gb232 ≠ gb249))
     have n10_ := Aside0.mk ((by rw [hg]; exact Nat.ne_of_gt (blk_lt (g := gb232) (o := .cells #[.int .i64 a2_0, .int .i64 a2_1, .bool a2_2, .int .i64 a2_3, .int .i64 a2_4, .int .i64 a2_5] 25 (0, 0)) (by (with_reducible repeat (first | refine blk_drewN ?_ _ | refine blk_drew ?_ | refine blk_alloc ?_ _)); exact BK232.out)) : gb249 ≠ gb232))
     have n11_ := Aside0.mk ((by rw [hg]; exact Nat.ne_of_lt (blk_lt (g := gb238) (o := .cells #[.int .i64 t234, .int .i64 t235, .int .i64 t236] 28 (0, 0)) (by (with_reducible repeat (first | refine blk_drewN ?_ _ | refine blk_drew ?_ | refine blk_alloc ?_ _)); exact BK238.out)) : gb238 ≠ gb249))
     have n12_ := Aside0.mk ((by rw [hg]; exact Nat.ne_of_gt (blk_lt (g := gb238) (o := .cells #[.int .i64 t234, .int .i64 t235, .int .i64 t236] 28 (0, 0)) (by (with_reducible repeat (first | refine blk_drewN ?_ _ | refine blk_drew ?_ | refine blk_alloc ?_ _)); exact BK238.out)) : gb249 ≠ gb238))
     clear BK231
     clear BK232
     clear BK238
     clear HB
     have BK231 := n0_
     have BK232 := n1_
     have BK238 := n2_
     have HB := n3_
     have BK249 := n4_
     have GW249 := n5_
     have GE249 := n6_
     have NB231_249 := n7_
     have NB249_231 := n8_
     have NB232_249 := n9_
     have NB249_232 := n10_
     have NB238_249 := n11_
     have NB249_238 := n12_
     clear n0_ n1_ n2_ n3_ n4_ n5_ n6_ n7_ n8_ n9_ n10_ n11_ n12_
     clear hb hbox hg
     refine hK.out _ _ ⟨(blk_cell BK231.out 0).trans rfl, (blk_cell BK231.out 1).trans rfl, (blk_cell BK231.out 2).trans rfl, (blk_cell BK231.out 3).trans rfl, (blk_cell BK231.out 4).trans rfl, (blk_cell BK232.out 0).trans rfl, (blk_cell BK232.out 1).trans rfl, (blk_cell BK232.out 2).trans rfl, (blk_cell BK232.out 3).trans rfl, (blk_cell BK232.out 4).trans rfl, (blk_cell BK232.out 5).trans rfl⟩ (fun hHeld => ?_)
     clear hK K
     refine norm_ (a' := ?_) ?_ ?_
     rotate_left
     ·
      show Act.put _ (some 10) _ = _
      simp only [Act.put, z80ad_q1, z80ad_q2, z80ad_q3, i64_w, i32_w]
      rfl
     exact norm_ (by simp only [putAll, Act.put, z80ad_q1, z80ad_q2, z80ad_q3]) (hCont (gb249) _ ⟨hHeld, (by (with_reducible repeat (first | refine blk_drewN ?_ _ | refine blk_drew ?_ | refine blk_alloc ?_ _)); exact BK231.out), (by (with_reducible repeat (first | refine blk_drewN ?_ _ | refine blk_drew ?_ | refine blk_alloc ?_ _)); exact BK232.out), (by (with_reducible repeat (first | refine blk_drewN ?_ _ | refine blk_drew ?_ | refine blk_alloc ?_ _)); exact BK238.out), (by (with_reducible repeat (first | refine blk_drewN ?_ _ | refine blk_drew ?_ | refine blk_alloc ?_ _)); exact BK249.out), GW249.out, GE249.out, NB231_249.out, NB249_231.out, NB232_249.out, NB249_232.out, NB238_249.out, NB249_238.out, (by repeat (first | (with_reducible first | exact HB.out | apply below_alloc | apply pw_below_drewN | apply below_drew1 | refine below_set ?_ GE231.out | refine below_set ?_ GE232.out | refine below_set ?_ GE238.out | refine below_set ?_ GE249.out) | exact HB.out))⟩)
    ·
     skip
     refine box_step ?hg (N := 10) ?hd (cs := #[.int .i64 0, .int .i64 0, .int .i64 0]) (t := 33) ?hr ?_; (case hd => rfl); (case hg => rfl); (case hr => first | (go_simp; done) | (go_simp; rfl))
     intro gb249 hg w24 hbox hb
     have n0_ := Aside0.mk (blk_below (g := gb231) (o := .cells #[.int .i64 a0_0, .int .i64 a0_1, .int .i64 a0_2, .int .i64 a0_3, .int .i64 a0_4] 23 (0, 0)) (by (with_reducible repeat (first | refine blk_drewN ?_ _ | refine blk_drew ?_ | refine blk_alloc ?_ _)); exact BK231.out) hb)
     have n1_ := Aside0.mk (blk_below (g := gb232) (o := .cells #[.int .i64 a2_0, .int .i64 a2_1, .bool a2_2, .int .i64 a2_3, .int .i64 a2_4, .int .i64 a2_5] 25 (0, 0)) (by (with_reducible repeat (first | refine blk_drewN ?_ _ | refine blk_drew ?_ | refine blk_alloc ?_ _)); exact BK232.out) hb)
     have n2_ := Aside0.mk (blk_below (g := gb238) (o := .cells #[.int .i64 t234, .int .i64 t235, .int .i64 t236] 28 (0, 0)) (by (with_reducible repeat (first | refine blk_drewN ?_ _ | refine blk_drew ?_ | refine blk_alloc ?_ _)); exact BK238.out) hb)
     have n3_ := Aside0.mk (below_step (by repeat (first | (with_reducible first | exact HB.out | apply below_alloc | apply pw_below_drewN | apply below_drew1 | refine below_set ?_ GE231.out | refine below_set ?_ GE232.out | refine below_set ?_ GE238.out) | exact HB.out)) hb)
     have n4_ := Aside0.mk (hbox)
     have n5_ := Aside0.mk ((by rw [hg]; exact (below_size (by repeat (first | (with_reducible first | exact HB.out | apply below_alloc | apply pw_below_drewN | apply below_drew1 | refine below_set ?_ GE231.out | refine below_set ?_ GE232.out | refine below_set ?_ GE238.out) | exact HB.out))) : w.heap.size ≤ gb249))
     have n6_ := Aside0.mk ((by rw [hg]; exact (below_size (by repeat (first | (with_reducible first | exact HB.out | apply below_alloc | apply pw_below_drewN | apply below_drew1 | refine below_set ?_ GE231.out | refine below_set ?_ GE232.out | refine below_set ?_ GE238.out) | exact HB.out))) : w.heap.size ≤ gb249))
     have n7_ := Aside0.mk ((by rw [hg]; exact Nat.ne_of_lt (blk_lt (g := gb231) (o := .cells #[.int .i64 a0_0, .int .i64 a0_1, .int .i64 a0_2, .int .i64 a0_3, .int .i64 a0_4] 23 (0, 0)) (by (with_reducible repeat (first | refine blk_drewN ?_ _ | refine blk_drew ?_ | refine blk_alloc ?_ _)); exact BK231.out)) : gb231 ≠ gb249))
     have n8_ := Aside0.mk ((by rw [hg]; exact Nat.ne_of_gt (blk_lt (g := gb231) (o := .cells #[.int .i64 a0_0, .int .i64 a0_1, .int .i64 a0_2, .int .i64 a0_3, .int .i64 a0_4] 23 (0, 0)) (by (with_reducible repeat (first | refine blk_drewN ?_ _ | refine blk_drew ?_ | refine blk_alloc ?_ _)); exact BK231.out)) : gb249 ≠ gb231))
     have n9_ := Aside0.mk ((by rw [hg]; exact Nat.ne_of_lt (blk_lt (g := gb232) (o := .cells #[.int .i64 a2_0, .int .i64 a2_1, .bool a2_2, .int .i64 a2_3, .int .i64 a2_4, .int .i64 a2_5] 25 (0, 0)) (by (with_reducible repeat (first | refine blk_drewN ?_ _ | refine blk_drew ?_ | refine blk_alloc ?_ _)); exact BK232.out)) : gb232 ≠ gb249))
     have n10_ := Aside0.mk ((by rw [hg]; exact Nat.ne_of_gt (blk_lt (g := gb232) (o := .cells #[.int .i64 a2_0, .int .i64 a2_1, .bool a2_2, .int .i64 a2_3, .int .i64 a2_4, .int .i64 a2_5] 25 (0, 0)) (by (with_reducible repeat (first | refine blk_drewN ?_ _ | refine blk_drew ?_ | refine blk_alloc ?_ _)); exact BK232.out)) : gb249 ≠ gb232))
     have n11_ := Aside0.mk ((by rw [hg]; exact Nat.ne_of_lt (blk_lt (g := gb238) (o := .cells #[.int .i64 t234, .int .i64 t235, .int .i64 t236] 28 (0, 0)) (by (with_reducible repeat (first | refine blk_drewN ?_ _ | refine blk_drew ?_ | refine blk_alloc ?_ _)); exact BK238.out)) : gb238 ≠ gb249))
     have n12_ := Aside0.mk ((by rw [hg]; exact Nat.ne_of_gt (blk_lt (g := gb238) (o := .cells #[.int .i64 t234, .int .i64 t235, .int .i64 t236] 28 (0, 0)) (by (with_reducible repeat (first | refine blk_drewN ?_ _ | refine blk_drew ?_ | refine blk_alloc ?_ _)); exact BK238.out)) : gb249 ≠ gb238))
     clear BK231
     clear BK232
     clear BK238
     clear HB
     have BK231 := n0_
     have BK232 := n1_
     have BK238 := n2_
     have HB := n3_
     have BK249 := n4_
     have GW249 := n5_
     have GE249 := n6_
     have NB231_249 := n7_
     have NB249_231 := n8_
     have NB232_249 := n9_
     have NB249_232 := n10_
     have NB238_249 := n11_
     have NB249_238 := n12_
     clear n0_ n1_ n2_ n3_ n4_ n5_ n6_ n7_ n8_ n9_ n10_ n11_ n12_
     clear hb hbox hg
     refine hK.out _ _ ⟨(blk_cell BK231.out 0).trans rfl, (blk_cell BK231.out 1).trans rfl, (blk_cell BK231.out 2).trans rfl, (blk_cell BK231.out 3).trans rfl, (blk_cell BK231.out 4).trans rfl, (blk_cell BK232.out 0).trans rfl, (blk_cell BK232.out 1).trans rfl, (blk_cell BK232.out 2).trans rfl, (blk_cell BK232.out 3).trans rfl, (blk_cell BK232.out 4).trans rfl, (blk_cell BK232.out 5).trans rfl⟩ (fun hHeld => ?_)
     clear hK K
     refine norm_ (a' := ?_) ?_ ?_
     rotate_left
     ·
      show Act.put _ (some 10) _ = _
      simp only [Act.put, z80ad_q1, z80ad_q2, z80ad_q3, i64_w, i32_w]
      rfl
     refine one_ (i := 4) (N := some 27) z80ad_m12 rfl rfl (one_of HT_.out (by kernel_rfl)) (by decide) (fun K hK => ?_)
     refine goes_ Tryd.func9 (by kernel_rfl) rfl #[.agg #[.int .i64 a0_0, .int .i64 a0_1, .int .i64 a0_2, .int .i64 a0_3, .int .i64 a0_4], .int .i64 a1, .agg #[.int .i64 t239, .int .i64 t240, .bool t241, .int .i64 t242, .int .i64 t243, .int .i64 t244]] (by rfl) rfl rfl (by (try simp only [List.map_toArray, List.map_cons, List.map_nil]); first | done | rfl | (simp only [List.length_drop, List.length_take]; rfl)) ?_
     with_reducible refine (pledgeref10_Value.calls k a0_0 a0_1 a0_2 a0_3 a0_4 a1 t239 t240 t241 t242 t243 t244 t245 t246 t247 t248 _ A8.out).mono ?_
     rintro e w25 ⟨rfl, hb⟩
     refine ⟨_, rfl, ?_⟩
     have n0_ := Aside0.mk (blk_below (g := gb231) (o := .cells #[.int .i64 a0_0, .int .i64 a0_1, .int .i64 a0_2, .int .i64 a0_3, .int .i64 a0_4] 23 (0, 0)) (by (with_reducible repeat (first | refine blk_drewN ?_ _ | refine blk_drew ?_ | refine blk_alloc ?_ _)); exact BK231.out) hb)
     have n1_ := Aside0.mk (blk_below (g := gb232) (o := .cells #[.int .i64 a2_0, .int .i64 a2_1, .bool a2_2, .int .i64 a2_3, .int .i64 a2_4, .int .i64 a2_5] 25 (0, 0)) (by (with_reducible repeat (first | refine blk_drewN ?_ _ | refine blk_drew ?_ | refine blk_alloc ?_ _)); exact BK232.out) hb)
     have n2_ := Aside0.mk (blk_below (g := gb238) (o := .cells #[.int .i64 t234, .int .i64 t235, .int .i64 t236] 28 (0, 0)) (by (with_reducible repeat (first | refine blk_drewN ?_ _ | refine blk_drew ?_ | refine blk_alloc ?_ _)); exact BK238.out) hb)
     have n3_ := Aside0.mk (blk_below (g := gb249) (o := .cells #[.int .i64 0, .int .i64 0, .int .i64 0] 33 (0, 0)) (by (with_reducible repeat (first | refine blk_drewN ?_ _ | refine blk_drew ?_ | refine blk_alloc ?_ _)); exact BK249.out) hb)
     have n4_ := Aside0.mk (below_step (by repeat (first | (with_reducible first | exact HB.out | apply below_alloc | apply pw_below_drewN | apply below_drew1 | refine below_set ?_ GE231.out | refine below_set ?_ GE232.out | refine below_set ?_ GE238.out | refine below_set ?_ GE249.out) | exact HB.out)) hb)
     clear BK231
     clear BK232
     clear BK238
     clear BK249
     clear HB
     have BK231 := n0_
     have BK232 := n1_
     have BK238 := n2_
     have BK249 := n3_
     have HB := n4_
     clear n0_ n1_ n2_ n3_ n4_
     (try clear hb)
     (try clear hb2)
     (try clear hk)
     (try clear hi)
     refine hK.out _ _ ⟨(blk_cell BK231.out 0).trans rfl, (blk_cell BK231.out 1).trans rfl, (blk_cell BK231.out 2).trans rfl, (blk_cell BK231.out 3).trans rfl, (blk_cell BK231.out 4).trans rfl, (blk_cell BK232.out 0).trans rfl, (blk_cell BK232.out 1).trans rfl, (blk_cell BK232.out 2).trans rfl, (blk_cell BK232.out 3).trans rfl, (blk_cell BK232.out 4).trans rfl, (blk_cell BK232.out 5).trans rfl⟩ (fun hHeld => ?_)
     clear hK K
     refine norm_ (a' := ?_) ?_ ?_
     rotate_left
     ·
      show Act.put _ (some 27) _ = _
      simp only [Act.put, z80ad_q1, z80ad_q2, z80ad_q3, i64_w, i32_w]
      rfl
     refine z80ad_u 5 22 z80ad_m13 HT_ (v := ?_) (a' := ?_) rfl rfl (by kernel_rfl) (fun _ _ _ h => h) (Or.inl ⟨by rfl, ?_⟩) ?_ ?_
     rotate_left
     · intro w'; go_simp; with_reducible rfl
     rotate_left
     · simp only [Act.put, z80ad_q1, z80ad_q2, z80ad_q3, i64_w, i32_w]; rfl
     refine z80ad_u 6 28 z80ad_m14 HT_ (v := ?_) (a' := ?_) rfl rfl (by kernel_rfl) (fun _ _ _ h => h) (Or.inl ⟨by rfl, ?_⟩) ?_ ?_
     rotate_left
     · intro w'; go_simp; with_reducible rfl
     rotate_left
     · simp only [Act.put, z80ad_q1, z80ad_q2, z80ad_q3, i64_w, i32_w]; rfl
     refine z80ad_u 7 29 z80ad_m4 HT_ (v := ?_) (a' := ?_) rfl rfl (by kernel_rfl) (fun _ _ _ h => h) (Or.inl ⟨by rfl, ?_⟩) ?_ ?_
     rotate_left
     · intro w'; go_simp; with_reducible rfl
     rotate_left
     · simp only [Act.put, z80ad_q1, z80ad_q2, z80ad_q3, i64_w, i32_w]; rfl
     exact norm_ (by simp only [putAll, Act.put, z80ad_q1, z80ad_q2, z80ad_q3]) (hCont (gb249) _ ⟨hHeld, (by (with_reducible repeat (first | refine blk_drewN ?_ _ | refine blk_drew ?_ | refine blk_alloc ?_ _)); exact BK231.out), (by (with_reducible repeat (first | refine blk_drewN ?_ _ | refine blk_drew ?_ | refine blk_alloc ?_ _)); exact BK232.out), (by (with_reducible repeat (first | refine blk_drewN ?_ _ | refine blk_drew ?_ | refine blk_alloc ?_ _)); exact BK238.out), (by (with_reducible repeat (first | refine blk_drewN ?_ _ | refine blk_drew ?_ | refine blk_alloc ?_ _)); exact BK249.out), GW249.out, GE249.out, NB231_249.out, NB249_231.out, NB232_249.out, NB249_232.out, NB238_249.out, NB249_238.out, (by repeat (first | (with_reducible first | exact HB.out | apply below_alloc | apply pw_below_drewN | apply below_drew1 | refine below_set ?_ GE231.out | refine below_set ?_ GE232.out | refine below_set ?_ GE238.out | refine below_set ?_ GE249.out) | exact HB.out))⟩)
   ·
    skip
    refine box_step ?hg (N := 10) ?hd (cs := #[.int .i64 0, .int .i64 0, .int .i64 0]) (t := 33) ?hr ?_; (case hd => rfl); (case hg => rfl); (case hr => first | (go_simp; done) | (go_simp; rfl))
    intro gb249 hg w23 hbox hb
    have n0_ := Aside0.mk (blk_below (g := gb231) (o := .cells #[.int .i64 a0_0, .int .i64 a0_1, .int .i64 a0_2, .int .i64 a0_3, .int .i64 a0_4] 23 (0, 0)) (by (with_reducible repeat (first | refine blk_drewN ?_ _ | refine blk_drew ?_ | refine blk_alloc ?_ _)); exact BK231.out) hb)
    have n1_ := Aside0.mk (blk_below (g := gb232) (o := .cells #[.int .i64 a2_0, .int .i64 a2_1, .bool a2_2, .int .i64 a2_3, .int .i64 a2_4, .int .i64 a2_5] 25 (0, 0)) (by (with_reducible repeat (first | refine blk_drewN ?_ _ | refine blk_drew ?_ | refine blk_alloc ?_ _)); exact BK232.out) hb)
    have n2_ := Aside0.mk (blk_below (g := gb238) (o := .cells #[.int .i64 t234, .int .i64 t235, .int .i64 t236] 28 (0, 0)) (by (with_reducible repeat (first | refine blk_drewN ?_ _ | refine blk_drew ?_ | refine blk_alloc ?_ _)); exact BK238.out) hb)
    have n3_ := Aside0.mk (below_step (by repeat (first | (with_reducible first | exact HB.out | apply below_alloc | apply pw_below_drewN | apply below_drew1 | refine below_set ?_ GE231.out | refine below_set ?_ GE232.out | refine below_set ?_ GE238.out) | exact HB.out)) hb)
    have n4_ := Aside0.mk (hbox)
    have n5_ := Aside0.mk ((by rw [hg]; exact (below_size (by repeat (first | (with_reducible first | exact HB.out | apply below_alloc | apply pw_below_drewN | apply below_drew1 | refine below_set ?_ GE231.out | refine below_set ?_ GE232.out | refine below_set ?_ GE238.out) | exact HB.out))) : w.heap.size ≤ gb249))
    have n6_ := Aside0.mk ((by rw [hg]; exact (below_size (by repeat (first | (with_reducible first | exact HB.out | apply below_alloc | apply pw_below_drewN | apply below_drew1 | refine below_set ?_ GE231.out | refine below_set ?_ GE232.out | refine below_set ?_ GE238.out) | exact HB.out))) : w.heap.size ≤ gb249))
    have n7_ := Aside0.mk ((by rw [hg]; exact Nat.ne_of_lt (blk_lt (g := gb231) (o := .cells #[.int .i64 a0_0, .int .i64 a0_1, .int .i64 a0_2, .int .i64 a0_3, .int .i64 a0_4] 23 (0, 0)) (by (with_reducible repeat (first | refine blk_drewN ?_ _ | refine blk_drew ?_ | refine blk_alloc ?_ _)); exact BK231.out)) : gb231 ≠ gb249))
    have n8_ := Aside0.mk ((by rw [hg]; exact Nat.ne_of_gt (blk_lt (g := gb231) (o := .cells #[.int .i64 a0_0, .int .i64 a0_1, .int .i64 a0_2, .int .i64 a0_3, .int .i64 a0_4] 23 (0, 0)) (by (with_reducible repeat (first | refine blk_drewN ?_ _ | refine blk_drew ?_ | refine blk_alloc ?_ _)); exact BK231.out)) : gb249 ≠ gb231))
    have n9_ := Aside0.mk ((by rw [hg]; exact Nat.ne_of_lt (blk_lt (g := gb232) (o := .cells #[.int .i64 a2_0, .int .i64 a2_1, .bool a2_2, .int .i64 a2_3, .int .i64 a2_4, .int .i64 a2_5] 25 (0, 0)) (by (with_reducible repeat (first | refine blk_drewN ?_ _ | refine blk_drew ?_ | refine blk_alloc ?_ _)); exact BK232.out)) : gb232 ≠ gb249))
    have n10_ := Aside0.mk ((by rw [hg]; exact Nat.ne_of_gt (blk_lt (g := gb232) (o := .cells #[.int .i64 a2_0, .int .i64 a2_1, .bool a2_2, .int .i64 a2_3, .int .i64 a2_4, .int .i64 a2_5] 25 (0, 0)) (by (with_reducible repeat (first | refine blk_drewN ?_ _ | refine blk_drew ?_ | refine blk_alloc ?_ _)); exact BK232.out)) : gb249 ≠ gb232))
    have n11_ := Aside0.mk ((by rw [hg]; exact Nat.ne_of_lt (blk_lt (g := gb238) (o := .cells #[.int .i64 t234, .int .i64 t235, .int .i64 t236] 28 (0, 0)) (by (with_reducible repeat (first | refine blk_drewN ?_ _ | refine blk_drew ?_ | refine blk_alloc ?_ _)); exact BK238.out)) : gb238 ≠ gb249))
    have n12_ := Aside0.mk ((by rw [hg]; exact Nat.ne_of_gt (blk_lt (g := gb238) (o := .cells #[.int .i64 t234, .int .i64 t235, .int .i64 t236] 28 (0, 0)) (by (with_reducible repeat (first | refine blk_drewN ?_ _ | refine blk_drew ?_ | refine blk_alloc ?_ _)); exact BK238.out)) : gb249 ≠ gb238))
    clear BK231
    clear BK232
    clear BK238
    clear HB
    have BK231 := n0_
    have BK232 := n1_
    have BK238 := n2_
    have HB := n3_
    have BK249 := n4_
    have GW249 := n5_
    have GE249 := n6_
    have NB231_249 := n7_
    have NB249_231 := n8_
    have NB232_249 := n9_
    have NB249_232 := n10_
    have NB238_249 := n11_
    have NB249_238 := n12_
    clear n0_ n1_ n2_ n3_ n4_ n5_ n6_ n7_ n8_ n9_ n10_ n11_ n12_
    clear hb hbox hg
    refine hK.out _ _ ⟨(blk_cell BK231.out 0).trans rfl, (blk_cell BK231.out 1).trans rfl, (blk_cell BK231.out 2).trans rfl, (blk_cell BK231.out 3).trans rfl, (blk_cell BK231.out 4).trans rfl, (blk_cell BK232.out 0).trans rfl, (blk_cell BK232.out 1).trans rfl, (blk_cell BK232.out 2).trans rfl, (blk_cell BK232.out 3).trans rfl, (blk_cell BK232.out 4).trans rfl, (blk_cell BK232.out 5).trans rfl⟩ (fun hHeld => ?_)
    clear hK K
    refine norm_ (a' := ?_) ?_ ?_
    rotate_left
    ·
     show Act.put _ (some 10) _ = _
     simp only [Act.put, z80ad_q1, z80ad_q2, z80ad_q3, i64_w, i32_w]
     rfl
    refine one_ (i := 3) (N := some 26) z80ad_m8 rfl rfl (one_of HT_.out (by kernel_rfl)) (by decide) (fun K hK => ?_)
    refine goes_ Tryd.func10 (by kernel_rfl) rfl #[.agg #[.int .i64 a2_0, .int .i64 a2_1, .bool a2_2, .int .i64 a2_3, .int .i64 a2_4, .int .i64 a2_5]] (by rfl) rfl rfl (by (try simp only [List.map_toArray, List.map_cons, List.map_nil]); first | done | rfl | (simp only [List.length_drop, List.length_take]; rfl)) ?_
    with_reducible refine (pledgelaw15_other.calls a2_0 a2_1 a2_2 a2_3 a2_4 a2_5 t239 t240 t241 t242 t243 t244 _ A7.out).mono ?_
    rintro e w24 ⟨rfl, hb⟩
    refine ⟨_, rfl, ?_⟩
    have n0_ := Aside0.mk (blk_below (g := gb231) (o := .cells #[.int .i64 a0_0, .int .i64 a0_1, .int .i64 a0_2, .int .i64 a0_3, .int .i64 a0_4] 23 (0, 0)) (by (with_reducible repeat (first | refine blk_drewN ?_ _ | refine blk_drew ?_ | refine blk_alloc ?_ _)); exact BK231.out) hb)
    have n1_ := Aside0.mk (blk_below (g := gb232) (o := .cells #[.int .i64 a2_0, .int .i64 a2_1, .bool a2_2, .int .i64 a2_3, .int .i64 a2_4, .int .i64 a2_5] 25 (0, 0)) (by (with_reducible repeat (first | refine blk_drewN ?_ _ | refine blk_drew ?_ | refine blk_alloc ?_ _)); exact BK232.out) hb)
    have n2_ := Aside0.mk (blk_below (g := gb238) (o := .cells #[.int .i64 t234, .int .i64 t235, .int .i64 t236] 28 (0, 0)) (by (with_reducible repeat (first | refine blk_drewN ?_ _ | refine blk_drew ?_ | refine blk_alloc ?_ _)); exact BK238.out) hb)
    have n3_ := Aside0.mk (blk_below (g := gb249) (o := .cells #[.int .i64 0, .int .i64 0, .int .i64 0] 33 (0, 0)) (by (with_reducible repeat (first | refine blk_drewN ?_ _ | refine blk_drew ?_ | refine blk_alloc ?_ _)); exact BK249.out) hb)
    have n4_ := Aside0.mk (below_step (by repeat (first | (with_reducible first | exact HB.out | apply below_alloc | apply pw_below_drewN | apply below_drew1 | refine below_set ?_ GE231.out | refine below_set ?_ GE232.out | refine below_set ?_ GE238.out | refine below_set ?_ GE249.out) | exact HB.out)) hb)
    clear BK231
    clear BK232
    clear BK238
    clear BK249
    clear HB
    have BK231 := n0_
    have BK232 := n1_
    have BK238 := n2_
    have BK249 := n3_
    have HB := n4_
    clear n0_ n1_ n2_ n3_ n4_
    (try clear hb)
    (try clear hb2)
    (try clear hk)
    (try clear hi)
    refine hK.out _ _ ⟨(blk_cell BK231.out 0).trans rfl, (blk_cell BK231.out 1).trans rfl, (blk_cell BK231.out 2).trans rfl, (blk_cell BK231.out 3).trans rfl, (blk_cell BK231.out 4).trans rfl, (blk_cell BK232.out 0).trans rfl, (blk_cell BK232.out 1).trans rfl, (blk_cell BK232.out 2).trans rfl, (blk_cell BK232.out 3).trans rfl, (blk_cell BK232.out 4).trans rfl, (blk_cell BK232.out 5).trans rfl⟩ (fun hHeld => ?_)
    clear hK K
    refine norm_ (a' := ?_) ?_ ?_
    rotate_left
    ·
     show Act.put _ (some 26) _ = _
     simp only [Act.put, z80ad_q1, z80ad_q2, z80ad_q3, i64_w, i32_w]
     rfl
    refine one_ (i := 4) (N := some 27) z80ad_m12 rfl rfl (one_of HT_.out (by kernel_rfl)) (by decide) (fun K hK => ?_)
    refine goes_ Tryd.func9 (by kernel_rfl) rfl #[.agg #[.int .i64 a0_0, .int .i64 a0_1, .int .i64 a0_2, .int .i64 a0_3, .int .i64 a0_4], .int .i64 a1, .agg #[.int .i64 t239, .int .i64 t240, .bool t241, .int .i64 t242, .int .i64 t243, .int .i64 t244]] (by rfl) rfl rfl (by (try simp only [List.map_toArray, List.map_cons, List.map_nil]); first | done | rfl | (simp only [List.length_drop, List.length_take]; rfl)) ?_
    with_reducible refine (pledgeref10_Value.calls k a0_0 a0_1 a0_2 a0_3 a0_4 a1 t239 t240 t241 t242 t243 t244 t245 t246 t247 t248 _ A8.out).mono ?_
    rintro e w25 ⟨rfl, hb⟩
    refine ⟨_, rfl, ?_⟩
    have n0_ := Aside0.mk (blk_below (g := gb231) (o := .cells #[.int .i64 a0_0, .int .i64 a0_1, .int .i64 a0_2, .int .i64 a0_3, .int .i64 a0_4] 23 (0, 0)) (by (with_reducible repeat (first | refine blk_drewN ?_ _ | refine blk_drew ?_ | refine blk_alloc ?_ _)); exact BK231.out) hb)
    have n1_ := Aside0.mk (blk_below (g := gb232) (o := .cells #[.int .i64 a2_0, .int .i64 a2_1, .bool a2_2, .int .i64 a2_3, .int .i64 a2_4, .int .i64 a2_5] 25 (0, 0)) (by (with_reducible repeat (first | refine blk_drewN ?_ _ | refine blk_drew ?_ | refine blk_alloc ?_ _)); exact BK232.out) hb)
    have n2_ := Aside0.mk (blk_below (g := gb238) (o := .cells #[.int .i64 t234, .int .i64 t235, .int .i64 t236] 28 (0, 0)) (by (with_reducible repeat (first | refine blk_drewN ?_ _ | refine blk_drew ?_ | refine blk_alloc ?_ _)); exact BK238.out) hb)
    have n3_ := Aside0.mk (blk_below (g := gb249) (o := .cells #[.int .i64 0, .int .i64 0, .int .i64 0] 33 (0, 0)) (by (with_reducible repeat (first | refine blk_drewN ?_ _ | refine blk_drew ?_ | refine blk_alloc ?_ _)); exact BK249.out) hb)
    have n4_ := Aside0.mk (below_step (by repeat (first | (with_reducible first | exact HB.out | apply below_alloc | apply pw_below_drewN | apply below_drew1 | refine below_set ?_ GE231.out | refine below_set ?_ GE232.out | refine below_set ?_ GE238.out | refine below_set ?_ GE249.out) | exact HB.out)) hb)
    clear BK231
    clear BK232
    clear BK238
    clear BK249
    clear HB
    have BK231 := n0_
    have BK232 := n1_
    have BK238 := n2_
    have BK249 := n3_
    have HB := n4_
    clear n0_ n1_ n2_ n3_ n4_
    (try clear hb)
    (try clear hb2)
    (try clear hk)
    (try clear hi)
    refine hK.out _ _ ⟨(blk_cell BK231.out 0).trans rfl, (blk_cell BK231.out 1).trans rfl, (blk_cell BK231.out 2).trans rfl, (blk_cell BK231.out 3).trans rfl, (blk_cell BK231.out 4).trans rfl, (blk_cell BK232.out 0).trans rfl, (blk_cell BK232.out 1).trans rfl, (blk_cell BK232.out 2).trans rfl, (blk_cell BK232.out 3).trans rfl, (blk_cell BK232.out 4).trans rfl, (blk_cell BK232.out 5).trans rfl⟩ (fun hHeld => ?_)
    clear hK K
    refine norm_ (a' := ?_) ?_ ?_
    rotate_left
    ·
     show Act.put _ (some 27) _ = _
     simp only [Act.put, z80ad_q1, z80ad_q2, z80ad_q3, i64_w, i32_w]
     rfl
    refine z80ad_u 5 22 z80ad_m13 HT_ (v := ?_) (a' := ?_) rfl rfl (by kernel_rfl) (fun _ _ _ h => h) (Or.inl ⟨by rfl, ?_⟩) ?_ ?_
    rotate_left
    · intro w'; go_simp; with_reducible rfl
    rotate_left
    · simp only [Act.put, z80ad_q1, z80ad_q2, z80ad_q3, i64_w, i32_w]; rfl
    refine z80ad_u 6 28 z80ad_m14 HT_ (v := ?_) (a' := ?_) rfl rfl (by kernel_rfl) (fun _ _ _ h => h) (Or.inl ⟨by rfl, ?_⟩) ?_ ?_
    rotate_left
    · intro w'; go_simp; with_reducible rfl
    rotate_left
    · simp only [Act.put, z80ad_q1, z80ad_q2, z80ad_q3, i64_w, i32_w]; rfl
    refine z80ad_u 7 29 z80ad_m4 HT_ (v := ?_) (a' := ?_) rfl rfl (by kernel_rfl) (fun _ _ _ h => h) (Or.inl ⟨by rfl, ?_⟩) ?_ ?_
    rotate_left
    · intro w'; go_simp; with_reducible rfl
    rotate_left
    · simp only [Act.put, z80ad_q1, z80ad_q2, z80ad_q3, i64_w, i32_w]; rfl
    exact norm_ (by simp only [putAll, Act.put, z80ad_q1, z80ad_q2, z80ad_q3]) (hCont (gb249) _ ⟨hHeld, (by (with_reducible repeat (first | refine blk_drewN ?_ _ | refine blk_drew ?_ | refine blk_alloc ?_ _)); exact BK231.out), (by (with_reducible repeat (first | refine blk_drewN ?_ _ | refine blk_drew ?_ | refine blk_alloc ?_ _)); exact BK232.out), (by (with_reducible repeat (first | refine blk_drewN ?_ _ | refine blk_drew ?_ | refine blk_alloc ?_ _)); exact BK238.out), (by (with_reducible repeat (first | refine blk_drewN ?_ _ | refine blk_drew ?_ | refine blk_alloc ?_ _)); exact BK249.out), GW249.out, GE249.out, NB231_249.out, NB249_231.out, NB232_249.out, NB249_232.out, NB238_249.out, NB249_238.out, (by repeat (first | (with_reducible first | exact HB.out | apply below_alloc | apply pw_below_drewN | apply below_drew1 | refine below_set ?_ GE231.out | refine below_set ?_ GE232.out | refine below_set ?_ GE238.out | refine below_set ?_ GE249.out) | exact HB.out))⟩)
  rintro gb249 w26 ⟨hS_, h0_, h1_, h2_, h3_, h4_, h5_, h6_, h7_, h8_, h9_, h10_, h11_, h12_⟩
  have n0_ : Aside0 (w26.heap[gb231]? = some (.cells #[.int .i64 a0_0, .int .i64 a0_1, .int .i64 a0_2, .int .i64 a0_3, .int .i64 a0_4] 23 (0, 0))) := ⟨h0_⟩
  have n1_ : Aside0 (w26.heap[gb232]? = some (.cells #[.int .i64 a2_0, .int .i64 a2_1, .bool a2_2, .int .i64 a2_3, .int .i64 a2_4, .int .i64 a2_5] 25 (0, 0))) := ⟨h1_⟩
  have n2_ : Aside0 (w26.heap[gb238]? = some (.cells #[.int .i64 t234, .int .i64 t235, .int .i64 t236] 28 (0, 0))) := ⟨h2_⟩
  have n3_ : Aside0 (w26.heap[gb249]? = some (.cells #[.int .i64 0, .int .i64 0, .int .i64 0] 33 (0, 0))) := ⟨h3_⟩
  have n4_ : Aside0 (w.heap.size ≤ gb249) := ⟨h4_⟩
  have n5_ : Aside0 (w.heap.size ≤ gb249) := ⟨h5_⟩
  have n6_ : Aside0 (gb231 ≠ gb249) := ⟨h6_⟩
  have n7_ : Aside0 (gb249 ≠ gb231) := ⟨h7_⟩
  have n8_ : Aside0 (gb232 ≠ gb249) := ⟨h8_⟩
  have n9_ : Aside0 (gb249 ≠ gb232) := ⟨h9_⟩
  have n10_ : Aside0 (gb238 ≠ gb249) := ⟨h10_⟩
  have n11_ : Aside0 (gb249 ≠ gb238) := ⟨h11_⟩
  have n12_ : Aside0 (Below w.heap.size w w26) := ⟨h12_⟩
  clear BK231
  clear BK232
  clear BK238
  clear HB
  clear h0_ h1_ h2_ h3_ h4_ h5_ h6_ h7_ h8_ h9_ h10_ h11_ h12_
  have BK231 := n0_
  have BK232 := n1_
  have BK238 := n2_
  have BK249 := n3_
  have GW249 := n4_
  have GE249 := n5_
  have NB231_249 := n6_
  have NB249_231 := n7_
  have NB232_249 := n8_
  have NB249_232 := n9_
  have NB238_249 := n10_
  have NB249_238 := n11_
  have HB := n12_
  clear n0_ n1_ n2_ n3_ n4_ n5_ n6_ n7_ n8_ n9_ n10_ n11_ n12_
  have hHeld : w26.cell? ⟨gb231, 0, none⟩ = some (.int .i64 a0_0) ∧ w26.cell? ⟨gb231, 1, none⟩ = some (.int .i64 a0_1) ∧ w26.cell? ⟨gb231, 2, none⟩ = some (.int .i64 a0_2) ∧ w26.cell? ⟨gb231, 3, none⟩ = some (.int .i64 a0_3) ∧ w26.cell? ⟨gb231, 4, none⟩ = some (.int .i64 a0_4) ∧ w26.cell? ⟨gb232, 0, none⟩ = some (.int .i64 a2_0) ∧ w26.cell? ⟨gb232, 1, none⟩ = some (.int .i64 a2_1) ∧ w26.cell? ⟨gb232, 2, none⟩ = some (.bool a2_2) ∧ w26.cell? ⟨gb232, 3, none⟩ = some (.int .i64 a2_3) ∧ w26.cell? ⟨gb232, 4, none⟩ = some (.int .i64 a2_4) ∧ w26.cell? ⟨gb232, 5, none⟩ = some (.int .i64 a2_5) := hS_
  refine norm_ (a' := ?_) ?_ ?_
  rotate_left
  · simp only [putAll, Act.put, z80ad_q1, z80ad_q2, z80ad_q3]; rfl
  refine one_ (i := 9) (N := none) z80ad_m15 rfl rfl (one_of HT_.out (by kernel_rfl)) (by decide) (fun K hK => ?_)
  have hs27 : w26.cell? ⟨gb249, 0, none⟩ = some (.int .i64 0) := (blk_cell BK249.out 0).trans rfl
  have hfs27 := blk_frozen BK249.out 0
  have hns27_0 := NB231_249.out
  have hns27_1 := NB232_249.out
  have hns27_2 := NB238_249.out
  have hms27_0 := NB249_231.out
  have hms27_1 := NB249_232.out
  have hms27_2 := NB249_238.out
  have hs28 : w26.cell? ⟨gb249, 1, none⟩ = some (.int .i64 0) := (blk_cell BK249.out 1).trans rfl
  have hfs28 := blk_frozen BK249.out 1
  have hns28_0 := NB231_249.out
  have hns28_1 := NB232_249.out
  have hns28_2 := NB238_249.out
  have hms28_0 := NB249_231.out
  have hms28_1 := NB249_232.out
  have hms28_2 := NB249_238.out
  have hs29 : w26.cell? ⟨gb249, 2, none⟩ = some (.int .i64 0) := (blk_cell BK249.out 2).trans rfl
  have hfs29 := blk_frozen BK249.out 2
  have hns29_0 := NB231_249.out
  have hns29_1 := NB232_249.out
  have hns29_2 := NB238_249.out
  have hms29_0 := NB249_231.out
  have hms29_1 := NB249_232.out
  have hms29_2 := NB249_238.out
  refine skip_ (w1 := ?_) (by rfl) rfl ?_ ?_
  rotate_left
  ·
   go_simp
   rfl
  refine hK.out _ _ ⟨((cell_far (p := ⟨gb249, _, none⟩) NB231_249.out _).trans (((cell_far (p := ⟨gb249, _, none⟩) NB231_249.out _).trans (((cell_far (p := ⟨gb249, _, none⟩) NB231_249.out _).trans (hHeld.1)))))), ((cell_far (p := ⟨gb249, _, none⟩) NB231_249.out _).trans (((cell_far (p := ⟨gb249, _, none⟩) NB231_249.out _).trans (((cell_far (p := ⟨gb249, _, none⟩) NB231_249.out _).trans (hHeld.2.1)))))), ((cell_far (p := ⟨gb249, _, none⟩) NB231_249.out _).trans (((cell_far (p := ⟨gb249, _, none⟩) NB231_249.out _).trans (((cell_far (p := ⟨gb249, _, none⟩) NB231_249.out _).trans (hHeld.2.2.1)))))), ((cell_far (p := ⟨gb249, _, none⟩) NB231_249.out _).trans (((cell_far (p := ⟨gb249, _, none⟩) NB231_249.out _).trans (((cell_far (p := ⟨gb249, _, none⟩) NB231_249.out _).trans (hHeld.2.2.2.1)))))), ((cell_far (p := ⟨gb249, _, none⟩) NB231_249.out _).trans (((cell_far (p := ⟨gb249, _, none⟩) NB231_249.out _).trans (((cell_far (p := ⟨gb249, _, none⟩) NB231_249.out _).trans (hHeld.2.2.2.2.1)))))), ((cell_far (p := ⟨gb249, _, none⟩) NB232_249.out _).trans (((cell_far (p := ⟨gb249, _, none⟩) NB232_249.out _).trans (((cell_far (p := ⟨gb249, _, none⟩) NB232_249.out _).trans (hHeld.2.2.2.2.2.1)))))), ((cell_far (p := ⟨gb249, _, none⟩) NB232_249.out _).trans (((cell_far (p := ⟨gb249, _, none⟩) NB232_249.out _).trans (((cell_far (p := ⟨gb249, _, none⟩) NB232_249.out _).trans (hHeld.2.2.2.2.2.2.1)))))), ((cell_far (p := ⟨gb249, _, none⟩) NB232_249.out _).trans (((cell_far (p := ⟨gb249, _, none⟩) NB232_249.out _).trans (((cell_far (p := ⟨gb249, _, none⟩) NB232_249.out _).trans (hHeld.2.2.2.2.2.2.2.1)))))), ((cell_far (p := ⟨gb249, _, none⟩) NB232_249.out _).trans (((cell_far (p := ⟨gb249, _, none⟩) NB232_249.out _).trans (((cell_far (p := ⟨gb249, _, none⟩) NB232_249.out _).trans (hHeld.2.2.2.2.2.2.2.2.1)))))), ((cell_far (p := ⟨gb249, _, none⟩) NB232_249.out _).trans (((cell_far (p := ⟨gb249, _, none⟩) NB232_249.out _).trans (((cell_far (p := ⟨gb249, _, none⟩) NB232_249.out _).trans (hHeld.2.2.2.2.2.2.2.2.2.1)))))), ((cell_far (p := ⟨gb249, _, none⟩) NB232_249.out _).trans (((cell_far (p := ⟨gb249, _, none⟩) NB232_249.out _).trans (((cell_far (p := ⟨gb249, _, none⟩) NB232_249.out _).trans (hHeld.2.2.2.2.2.2.2.2.2.2))))))⟩ (fun hHeld => ?_)
  clear hK K
  refine z80ad_u 10 11 z80ad_m16 HT_ (v := ?_) (a' := ?_) rfl rfl (by kernel_rfl) (fun _ _ _ h => h) (Or.inl ⟨by rfl, ?_⟩) ?_ ?_
  rotate_left
  · intro w'; go_simp; with_reducible rfl
  rotate_left
  · simp only [Act.put, z80ad_q1, z80ad_q2, z80ad_q3, i64_w, i32_w]; rfl
  refine done_ (done_of HT_.out (by kernel_rfl)) ?_
  go_upto_region 6 with (fail)
  go_cut [6] (fun v6 wc => ∃ (kq : Nat) (x6_8 : Bool), v6 = .bool x6_8 ∧ Aside0 (pledgelaw15_ValueSays.j0 kq x6_8 = some r) ∧ Aside0 (kq ≤ k) ∧ Aside0 (wc.heap[gb231]? = some (.cells #[.int .i64 a0_0, .int .i64 a0_1, .int .i64 a0_2, .int .i64 a0_3, .int .i64 a0_4] 23 (0, 0))) ∧ Aside0 (wc.heap[gb232]? = some (.cells #[.int .i64 a2_0, .int .i64 a2_1, .bool a2_2, .int .i64 a2_3, .int .i64 a2_4, .int .i64 a2_5] 25 (0, 0))) ∧ Aside0 (wc.heap[gb238]? = some (.cells #[.int .i64 t234, .int .i64 t235, .int .i64 t236] 28 (0, 0))) ∧ Aside0 (wc.heap[gb249]? = some (.cells #[.int .i64 t245, .int .i64 t246, .int .i64 t247] 33 (0, 0))) ∧ Aside0 (Below w.heap.size w wc))
  case first =>
   have H := HC9.out
   clear HC9
   replace H := Option.bind_eq_some_iff.mp H
   obtain ⟨t250, A300, H⟩ := H
   replace H : (if t250 = true then (if t234 = t245 then (if t235 = t246 then (if t236 = t247 then ((value_Counts.f a0_0 a0_1 a0_2 a0_3 a0_4 a2_0 a2_1 a2_2 a2_3 a2_4 a2_5).bind fun t251 => ((pledgelaw15_other.f a2_0 a2_1 a2_2 a2_3 a2_4 a2_5).bind fun bt252 => ((pledgeref10_Counts.f a0_0 a0_1 a0_2 a0_3 a0_4 bt252.1 bt252.2.1 bt252.2.2.1 bt252.2.2.2.1 bt252.2.2.2.2.1 bt252.2.2.2.2.2).bind fun t258 => (pledgelaw15_ValueSays.j0 k (t251 == t258))))) else (pledgelaw15_ValueSays.j0 k false)) else (pledgelaw15_ValueSays.j0 k false)) else (pledgelaw15_ValueSays.j0 k false)) else (pledgelaw15_ValueSays.j0 k false)) = some r := H
   have A30 := Aside0.mk A300
   clear A300
   by_cases c31 : t250 = true
   ·
    subst c31
    have H1 : (if t234 = t245 then (if t235 = t246 then (if t236 = t247 then ((value_Counts.f a0_0 a0_1 a0_2 a0_3 a0_4 a2_0 a2_1 a2_2 a2_3 a2_4 a2_5).bind fun t251 => ((pledgelaw15_other.f a2_0 a2_1 a2_2 a2_3 a2_4 a2_5).bind fun bt252 => ((pledgeref10_Counts.f a0_0 a0_1 a0_2 a0_3 a0_4 bt252.1 bt252.2.1 bt252.2.2.1 bt252.2.2.2.1 bt252.2.2.2.2.1 bt252.2.2.2.2.2).bind fun t258 => (pledgelaw15_ValueSays.j0 k (t251 == t258))))) else (pledgelaw15_ValueSays.j0 k false)) else (pledgelaw15_ValueSays.j0 k false)) else (pledgelaw15_ValueSays.j0 k false)) = some r := by rw [if_pos rfl] at H; exact H
    clear H
    have H := H1
    clear H1
    by_cases c32 : t234 = t245
    ·
     rw [if_pos c32] at H
     have c32b0 : (t234 == t245) = true := beq_iff_eq.mpr c32
     have c32b1 : (t234 != t245) = false := bne_eq_false_iff_eq.mpr c32
     clear c32
     (first | rw [c32b0] | (simp only [i64_w, i32_w]; rw [c32b0]) | skip)
     by_cases c33 : t235 = t246
     ·
      rw [if_pos c33] at H
      have c33b0 : (t235 == t246) = true := beq_iff_eq.mpr c33
      have c33b1 : (t235 != t246) = false := bne_eq_false_iff_eq.mpr c33
      clear c33
      by_cases c34 : t236 = t247
      ·
       rw [if_pos c34] at H
       have c34b0 : (t236 == t247) = true := beq_iff_eq.mpr c34
       have c34b1 : (t236 != t247) = false := bne_eq_false_iff_eq.mpr c34
       clear c34
       replace H := Option.bind_eq_some_iff.mp H
       obtain ⟨t251, A350, H⟩ := H
       replace H : ((pledgelaw15_other.f a2_0 a2_1 a2_2 a2_3 a2_4 a2_5).bind fun bt252 => ((pledgeref10_Counts.f a0_0 a0_1 a0_2 a0_3 a0_4 bt252.1 bt252.2.1 bt252.2.2.1 bt252.2.2.2.1 bt252.2.2.2.2.1 bt252.2.2.2.2.2).bind fun t258 => (pledgelaw15_ValueSays.j0 k (t251 == t258)))) = some r := H
       have A35 := Aside0.mk A350
       clear A350
       replace H := Option.bind_eq_some_iff.mp H
       obtain ⟨⟨t252, t253, t254, t255, t256, t257⟩, A360, H⟩ := H
       replace H : ((pledgeref10_Counts.f a0_0 a0_1 a0_2 a0_3 a0_4 t252 t253 t254 t255 t256 t257).bind fun t258 => (pledgelaw15_ValueSays.j0 k (t251 == t258))) = some r := H
       have A36 := Aside0.mk A360
       clear A360
       replace H := Option.bind_eq_some_iff.mp H
       obtain ⟨t258, A370, H⟩ := H
       replace H : (pledgelaw15_ValueSays.j0 k (t251 == t258)) = some r := H
       have A37 := Aside0.mk A370
       clear A370
       have H' := Aside0.mk H
       clear H
       try go_wp2
       have n0_ : Aside0 ((((w26.setCell ⟨gb249, 0, none⟩ (.int .i64 t245)).setCell ⟨gb249, 1, none⟩ (.int .i64 t246)).setCell ⟨gb249, 2, none⟩ (.int .i64 t247)).heap[gb231]? = some (.cells #[.int .i64 a0_0, .int .i64 a0_1, .int .i64 a0_2, .int .i64 a0_3, .int .i64 a0_4] 23 (0, 0))) := ⟨by (with_reducible repeat (first | refine blk_drewN ?_ _ | refine blk_drew ?_ | refine blk_alloc ?_ _ | refine blk_far ?_ NB231_249.out _)); exact BK231.out⟩
       have n1_ : Aside0 ((((w26.setCell ⟨gb249, 0, none⟩ (.int .i64 t245)).setCell ⟨gb249, 1, none⟩ (.int .i64 t246)).setCell ⟨gb249, 2, none⟩ (.int .i64 t247)).heap[gb232]? = some (.cells #[.int .i64 a2_0, .int .i64 a2_1, .bool a2_2, .int .i64 a2_3, .int .i64 a2_4, .int .i64 a2_5] 25 (0, 0))) := ⟨by (with_reducible repeat (first | refine blk_drewN ?_ _ | refine blk_drew ?_ | refine blk_alloc ?_ _ | refine blk_far ?_ NB232_249.out _)); exact BK232.out⟩
       have n2_ : Aside0 ((((w26.setCell ⟨gb249, 0, none⟩ (.int .i64 t245)).setCell ⟨gb249, 1, none⟩ (.int .i64 t246)).setCell ⟨gb249, 2, none⟩ (.int .i64 t247)).heap[gb238]? = some (.cells #[.int .i64 t234, .int .i64 t235, .int .i64 t236] 28 (0, 0))) := ⟨by (with_reducible repeat (first | refine blk_drewN ?_ _ | refine blk_drew ?_ | refine blk_alloc ?_ _ | refine blk_far ?_ NB238_249.out _)); exact BK238.out⟩
       have n3_ : Aside0 ((((w26.setCell ⟨gb249, 0, none⟩ (.int .i64 t245)).setCell ⟨gb249, 1, none⟩ (.int .i64 t246)).setCell ⟨gb249, 2, none⟩ (.int .i64 t247)).heap[gb249]? = some (.cells #[.int .i64 t245, .int .i64 t246, .int .i64 t247] 33 (0, 0))) := ⟨by (with_reducible repeat (first | refine blk_drewN ?_ _ | refine blk_drew ?_ | refine blk_alloc ?_ _)); refine blk_put (cs := #[.int .i64 t245, .int .i64 t246, .int .i64 0]) ?_ 2 _ rfl; (with_reducible repeat (first | refine blk_drewN ?_ _ | refine blk_drew ?_ | refine blk_alloc ?_ _)); refine blk_put (cs := #[.int .i64 t245, .int .i64 0, .int .i64 0]) ?_ 1 _ rfl; (with_reducible repeat (first | refine blk_drewN ?_ _ | refine blk_drew ?_ | refine blk_alloc ?_ _)); refine blk_put (cs := #[.int .i64 0, .int .i64 0, .int .i64 0]) ?_ 0 _ rfl; (with_reducible repeat (first | refine blk_drewN ?_ _ | refine blk_drew ?_ | refine blk_alloc ?_ _)); exact BK249.out⟩
       have n4_ : Aside0 (Below w.heap.size w (((w26.setCell ⟨gb249, 0, none⟩ (.int .i64 t245)).setCell ⟨gb249, 1, none⟩ (.int .i64 t246)).setCell ⟨gb249, 2, none⟩ (.int .i64 t247))) := ⟨by repeat (first | (with_reducible first | exact HB.out | apply below_alloc | apply pw_below_drewN | apply below_drew1 | refine below_set ?_ GE231.out | refine below_set ?_ GE232.out | refine below_set ?_ GE238.out | refine below_set ?_ GE249.out) | exact HB.out)⟩
       (try clear BK231)
       (try clear BK232)
       (try clear BK238)
       (try clear BK249)
       (try clear HB)
       generalize (((w26.setCell ⟨gb249, 0, none⟩ (.int .i64 t245)).setCell ⟨gb249, 1, none⟩ (.int .i64 t246)).setCell ⟨gb249, 2, none⟩ (.int .i64 t247)) = w38 at n0_ n1_ n2_ n3_ n4_ ⊢
       have BK231 := n0_
       have BK232 := n1_
       have BK238 := n2_
       have BK249 := n3_
       have HB := n4_
       clear n0_ n1_ n2_ n3_ n4_
       (try (rw [drewN_self w38]; generalize hq_ : World.drewN w38 _ = w38; have n0_ : Aside0 (w38.heap[gb231]? = some (.cells #[.int .i64 a0_0, .int .i64 a0_1, .int .i64 a0_2, .int .i64 a0_3, .int .i64 a0_4] 23 (0, 0))) := ⟨by rw [← hq_]; exact (by (with_reducible repeat (first | refine blk_drewN ?_ _ | refine blk_drew ?_ | refine blk_alloc ?_ _)); exact BK231.out)⟩; have n1_ : Aside0 (w38.heap[gb232]? = some (.cells #[.int .i64 a2_0, .int .i64 a2_1, .bool a2_2, .int .i64 a2_3, .int .i64 a2_4, .int .i64 a2_5] 25 (0, 0))) := ⟨by rw [← hq_]; exact (by (with_reducible repeat (first | refine blk_drewN ?_ _ | refine blk_drew ?_ | refine blk_alloc ?_ _)); exact BK232.out)⟩; have n2_ : Aside0 (w38.heap[gb238]? = some (.cells #[.int .i64 t234, .int .i64 t235, .int .i64 t236] 28 (0, 0))) := ⟨by rw [← hq_]; exact (by (with_reducible repeat (first | refine blk_drewN ?_ _ | refine blk_drew ?_ | refine blk_alloc ?_ _)); exact BK238.out)⟩; have n3_ : Aside0 (w38.heap[gb249]? = some (.cells #[.int .i64 t245, .int .i64 t246, .int .i64 t247] 33 (0, 0))) := ⟨by rw [← hq_]; exact (by (with_reducible repeat (first | refine blk_drewN ?_ _ | refine blk_drew ?_ | refine blk_alloc ?_ _)); exact BK249.out)⟩; have n4_ : Aside0 (Below w.heap.size w w38) := ⟨by rw [← hq_]; exact (by repeat (first | (with_reducible first | exact HB.out | apply below_alloc | apply pw_below_drewN | apply below_drew1 | refine below_set ?_ GE231.out | refine below_set ?_ GE232.out | refine below_set ?_ GE238.out | refine below_set ?_ GE249.out) | exact HB.out))⟩; clear BK231 BK232 BK238 BK249 HB hq_; have BK231 := n0_; have BK232 := n1_; have BK238 := n2_; have BK249 := n3_; have HB := n4_; clear n0_ n1_ n2_ n3_ n4_))
       have n0_ := Aside0.mk (blk_drew BK231.out)
       have n1_ := Aside0.mk (blk_drew BK232.out)
       have n2_ := Aside0.mk (blk_drew BK238.out)
       have n3_ := Aside0.mk (blk_drew BK249.out)
       have n4_ := Aside0.mk (below_drew1 HB.out)
       clear BK231
       clear BK232
       clear BK238
       clear BK249
       clear HB
       have BK231 := n0_
       have BK232 := n1_
       have BK238 := n2_
       have BK249 := n3_
       have HB := n4_
       clear n0_ n1_ n2_ n3_ n4_
       have CA30 := fun W hG_ => pledgesee_Is.calls t237 t248 true W hG_ A30.out
       try simp only [errW_none, errW_some] at CA30
       refine start_ (n := 38) (S := fun w' => w'.cell? ⟨gb238, 0, none⟩ = some (.int .i64 t234) ∧ w'.cell? ⟨gb238, 1, none⟩ = some (.int .i64 t235) ∧ w'.cell? ⟨gb238, 2, none⟩ = some (.int .i64 t236) ∧ w'.cell? ⟨gb249, 0, none⟩ = some (.int .i64 t245) ∧ w'.cell? ⟨gb249, 1, none⟩ = some (.int .i64 t246) ∧ w'.cell? ⟨gb249, 2, none⟩ = some (.int .i64 t247) ∧ w'.cell? ⟨gb231, 0, none⟩ = some (.int .i64 a0_0) ∧ w'.cell? ⟨gb231, 1, none⟩ = some (.int .i64 a0_1) ∧ w'.cell? ⟨gb231, 2, none⟩ = some (.int .i64 a0_2) ∧ w'.cell? ⟨gb231, 3, none⟩ = some (.int .i64 a0_3) ∧ w'.cell? ⟨gb231, 4, none⟩ = some (.int .i64 a0_4) ∧ w'.cell? ⟨gb232, 0, none⟩ = some (.int .i64 a2_0) ∧ w'.cell? ⟨gb232, 1, none⟩ = some (.int .i64 a2_1) ∧ w'.cell? ⟨gb232, 2, none⟩ = some (.bool a2_2) ∧ w'.cell? ⟨gb232, 3, none⟩ = some (.int .i64 a2_3) ∧ w'.cell? ⟨gb232, 4, none⟩ = some (.int .i64 a2_4) ∧ w'.cell? ⟨gb232, 5, none⟩ = some (.int .i64 a2_5)) (ds := []) z80ad_m17 (by kernel_rfl) rfl rfl ⟨(blk_cell BK238.out 0).trans rfl, (blk_cell BK238.out 1).trans rfl, (blk_cell BK238.out 2).trans rfl, (blk_cell BK249.out 0).trans rfl, (blk_cell BK249.out 1).trans rfl, (blk_cell BK249.out 2).trans rfl, (blk_cell BK231.out 0).trans rfl, (blk_cell BK231.out 1).trans rfl, (blk_cell BK231.out 2).trans rfl, (blk_cell BK231.out 3).trans rfl, (blk_cell BK231.out 4).trans rfl, (blk_cell BK232.out 0).trans rfl, (blk_cell BK232.out 1).trans rfl, (blk_cell BK232.out 2).trans rfl, (blk_cell BK232.out 3).trans rfl, (blk_cell BK232.out 4).trans rfl, (blk_cell BK232.out 5).trans rfl⟩ (fun hHeld => ?_); refine with_tabW pledgelaw15_ValueSays.tab6 pledgelaw15_ValueSays.bits6 (fun HT_ HW_ => ?_)
       generalize w38.drew = w39 at BK231 BK232 BK238 BK249 HB hHeld ⊢
       refine z80ad_u 0 30 z80ad_m18 HT_ (v := ?_) (a' := ?_) rfl rfl (by kernel_rfl) (fun _ _ _ h => h) (Or.inl ⟨by rfl, ?_⟩) ?_ ?_
       rotate_left
       · intro w'; go_simp; with_reducible rfl
       rotate_left
       · simp only [Act.put, z80ad_q1, z80ad_q2, z80ad_q3, i64_w, i32_w]; rfl
       refine z80ad_u 1 31 z80ad_m19 HT_ (v := ?_) (a' := ?_) rfl rfl (by kernel_rfl) (fun _ _ _ h => h) (Or.inl ⟨by rfl, ?_⟩) ?_ ?_
       rotate_left
       · intro w'; go_simp; with_reducible rfl
       rotate_left
       · simp only [Act.put, z80ad_q1, z80ad_q2, z80ad_q3, i64_w, i32_w]; rfl
       refine z80ad_u 2 32 z80ad_m20 HT_ (v := ?_) (a' := ?_) rfl rfl (by kernel_rfl) (fun _ _ _ h => h) (Or.inl ⟨by rfl, ?_⟩) ?_ ?_
       rotate_left
       · intro w'; go_simp; with_reducible rfl
       rotate_left
       · simp only [Act.put, z80ad_q1, z80ad_q2, z80ad_q3, i64_w, i32_w]; rfl
       refine z80ad_u 3 33 z80ad_m21 HT_ (v := ?_) (a' := ?_) rfl rfl (by kernel_rfl) (fun _ _ _ h => h) (Or.inl ⟨by rfl, ?_⟩) ?_ ?_
       rotate_left
       · intro w'; go_simp; with_reducible rfl
       rotate_left
       · simp only [Act.put, z80ad_q1, z80ad_q2, z80ad_q3, i64_w, i32_w]; rfl
       refine one_ (i := 4) (N := some 34) z80ad_m22 rfl rfl (one_of HT_.out (by kernel_rfl)) (by decide) (fun K hK => ?_)
       refine goes_ Tryd.func11 (by kernel_rfl) rfl #[errW t237, .int .i64 t248] (by rfl) rfl rfl (by (try simp only [List.map_toArray, List.map_cons, List.map_nil]); first | done | rfl | (simp only [List.length_drop, List.length_take]; rfl)) ?_
       with_reducible refine (CA30 _ ?side1).mono ?_
       (case side1 => exact GlobOK.below HG.out (by repeat (first | (with_reducible first | exact HB.out | apply below_alloc | apply pw_below_drewN | apply below_drew1 | refine below_set ?_ GE231.out | refine below_set ?_ GE232.out | refine below_set ?_ GE238.out | refine below_set ?_ GE249.out) | exact HB.out)))
       rintro e w40 ⟨rfl, hb⟩
       refine ⟨_, rfl, ?_⟩
       have n0_ := Aside0.mk (blk_below (g := gb231) (o := .cells #[.int .i64 a0_0, .int .i64 a0_1, .int .i64 a0_2, .int .i64 a0_3, .int .i64 a0_4] 23 (0, 0)) (by (with_reducible repeat (first | refine blk_drewN ?_ _ | refine blk_drew ?_ | refine blk_alloc ?_ _)); exact BK231.out) hb)
       have n1_ := Aside0.mk (blk_below (g := gb232) (o := .cells #[.int .i64 a2_0, .int .i64 a2_1, .bool a2_2, .int .i64 a2_3, .int .i64 a2_4, .int .i64 a2_5] 25 (0, 0)) (by (with_reducible repeat (first | refine blk_drewN ?_ _ | refine blk_drew ?_ | refine blk_alloc ?_ _)); exact BK232.out) hb)
       have n2_ := Aside0.mk (blk_below (g := gb238) (o := .cells #[.int .i64 t234, .int .i64 t235, .int .i64 t236] 28 (0, 0)) (by (with_reducible repeat (first | refine blk_drewN ?_ _ | refine blk_drew ?_ | refine blk_alloc ?_ _)); exact BK238.out) hb)
       have n3_ := Aside0.mk (blk_below (g := gb249) (o := .cells #[.int .i64 t245, .int .i64 t246, .int .i64 t247] 33 (0, 0)) (by (with_reducible repeat (first | refine blk_drewN ?_ _ | refine blk_drew ?_ | refine blk_alloc ?_ _)); exact BK249.out) hb)
       have n4_ := Aside0.mk (below_step (by repeat (first | (with_reducible first | exact HB.out | apply below_alloc | apply pw_below_drewN | apply below_drew1 | refine below_set ?_ GE231.out | refine below_set ?_ GE232.out | refine below_set ?_ GE238.out | refine below_set ?_ GE249.out) | exact HB.out)) hb)
       clear BK231
       clear BK232
       clear BK238
       clear BK249
       clear HB
       have BK231 := n0_
       have BK232 := n1_
       have BK238 := n2_
       have BK249 := n3_
       have HB := n4_
       clear n0_ n1_ n2_ n3_ n4_
       (try clear hb)
       (try clear hb2)
       (try clear hk)
       (try clear hi)
       refine hK.out _ _ ⟨(blk_cell BK238.out 0).trans rfl, (blk_cell BK238.out 1).trans rfl, (blk_cell BK238.out 2).trans rfl, (blk_cell BK249.out 0).trans rfl, (blk_cell BK249.out 1).trans rfl, (blk_cell BK249.out 2).trans rfl, (blk_cell BK231.out 0).trans rfl, (blk_cell BK231.out 1).trans rfl, (blk_cell BK231.out 2).trans rfl, (blk_cell BK231.out 3).trans rfl, (blk_cell BK231.out 4).trans rfl, (blk_cell BK232.out 0).trans rfl, (blk_cell BK232.out 1).trans rfl, (blk_cell BK232.out 2).trans rfl, (blk_cell BK232.out 3).trans rfl, (blk_cell BK232.out 4).trans rfl, (blk_cell BK232.out 5).trans rfl⟩ (fun hHeld => ?_)
       clear hK K
       refine norm_ (a' := ?_) ?_ ?_
       rotate_left
       ·
        show Act.put _ (some 34) _ = _
        simp only [Act.put, z80ad_q1, z80ad_q2, z80ad_q3, i64_w, i32_w]
        rfl
       refine z80ad_u 5 35 z80ad_m23 HT_ (v := ?_) (a' := ?_) rfl rfl (by kernel_rfl) (fun _ _ _ h => h) (Or.inl ⟨by rfl, ?_⟩) ?_ ?_
       rotate_left
       · intro w'; go_simp; with_reducible rfl
       rotate_left
       · simp only [Act.put, z80ad_q1, z80ad_q2, z80ad_q3, i64_w, i32_w]; rfl
       refine z80ad_u 6 36 z80ad_m24 HT_ (v := ?_) (a' := ?_) rfl rfl (by kernel_rfl) (fun _ _ _ h => h) (Or.inl ⟨by rfl, ?_⟩) ?_ ?_
       rotate_left
       · intro w'; go_simp; with_reducible rfl
       rotate_left
       · simp only [Act.put, z80ad_q1, z80ad_q2, z80ad_q3, i64_w, i32_w]; rfl
       refine z80ad_u 7 37 z80ad_m25 HT_ (v := ?_) (a' := ?_) rfl rfl (by kernel_rfl) (fun _ _ _ h => h) (Or.inl ⟨by rfl, ?_⟩) ?_ ?_
       rotate_left
       · intro w'; go_simp; with_reducible rfl
       rotate_left
       · simp only [Act.put, z80ad_q1, z80ad_q2, z80ad_q3, i64_w, i32_w]; rfl
       refine z80ad_u 9 39 z80ad_m26 HT_ (v := ?_) (a' := ?_) rfl rfl (by kernel_rfl) (fun _ _ _ h => h) (Or.inl ⟨by rfl, ?_⟩) ?_ ?_
       rotate_left
       · intro w'; go_simp; with_reducible rfl
       rotate_left
       · simp only [Act.put, z80ad_q1, z80ad_q2, z80ad_q3, i64_w, i32_w]; rfl
       refine take_ (i := 8) (N := some 38) (v := ?_) (a' := ?_) z80ad_m27 rfl rfl (take_ofW HT_.out HW_.out (by kernel_rfl)) (fun _ _ _ h => h) (Or.inl ⟨by rfl, ?_⟩) hHeld ?_ ?_
       rotate_left
       ·
        rintro w' ⟨s0, s1, s2, s3, s4, s5, s6, s7, s8, s9, s10, s11, s12, s13, s14, s15, s16⟩
        go_simp
        with_reducible rfl
       rotate_left
       · simp only [Act.put, z80ad_q1, z80ad_q2, z80ad_q3, i64_w, i32_w]; rfl
       refine take_ (i := 10) (N := some 40) (v := ?_) (a' := ?_) z80ad_m28 rfl rfl (take_ofW HT_.out HW_.out (by kernel_rfl)) (fun _ _ _ h => h) (Or.inl ⟨by rfl, ?_⟩) hHeld ?_ ?_
       rotate_left
       ·
        rintro w' ⟨s0, s1, s2, s3, s4, s5, s6, s7, s8, s9, s10, s11, s12, s13, s14, s15, s16⟩
        go_simp
        with_reducible rfl
       rotate_left
       · simp only [Act.put, z80ad_q1, z80ad_q2, z80ad_q3, i64_w, i32_w]; rfl
       refine z80ad_u 11 41 z80ad_m29 HT_ (v := ?_) (a' := ?_) rfl rfl (by kernel_rfl) (fun _ _ _ h => h) (Or.inl ⟨by rfl, ?_⟩) ?_ ?_
       rotate_left
       · intro w'; go_simp; with_reducible rfl
       rotate_left
       · simp only [Act.put, z80ad_q1, z80ad_q2, z80ad_q3, i64_w, i32_w]; rfl
       refine z80ad_u 12 42 z80ad_m30 HT_ (v := ?_) (a' := ?_) rfl rfl (by kernel_rfl) (fun _ _ _ h => h) (Or.inl ⟨by rfl, ?_⟩) ?_ ?_
       rotate_left
       · intro w'; go_simp; with_reducible rfl
       rotate_left
       · simp only [Act.put, z80ad_q1, z80ad_q2, z80ad_q3, i64_w, i32_w]; rfl
       refine z80ad_u 13 43 z80ad_m31 HT_ (v := ?_) (a' := ?_) rfl rfl (by kernel_rfl) (fun _ _ _ h => h) (Or.inl ⟨by rfl, ?_⟩) ?_ ?_
       rotate_left
       · intro w'; go_simp; with_reducible rfl
       rotate_left
       · simp only [Act.put, z80ad_q1, z80ad_q2, z80ad_q3, i64_w, i32_w]; rfl
       refine z80ad_u 14 44 z80ad_m32 HT_ (v := ?_) (a' := ?_) rfl rfl (by kernel_rfl) (fun _ _ _ h => h) (Or.inl ⟨by rfl, ?_⟩) ?_ ?_
       rotate_left
       · intro w'; go_simp; with_reducible rfl
       rotate_left
       · simp only [Act.put, z80ad_q1, z80ad_q2, z80ad_q3, i64_w, i32_w]; rfl
       refine z80ad_u 16 46 z80ad_m33 HT_ (v := ?_) (a' := ?_) rfl rfl (by kernel_rfl) (fun _ _ _ h => h) (Or.inl ⟨by rfl, ?_⟩) ?_ ?_
       rotate_left
       · intro w'; go_simp; with_reducible rfl
       rotate_left
       · simp only [Act.put, z80ad_q1, z80ad_q2, z80ad_q3, i64_w, i32_w]; rfl
       refine take_ (i := 15) (N := some 45) (v := ?_) (a' := ?_) z80ad_m34 rfl rfl (take_ofW HT_.out HW_.out (by kernel_rfl)) (fun _ _ _ h => h) (Or.inl ⟨by rfl, ?_⟩) hHeld ?_ ?_
       rotate_left
       ·
        rintro w' ⟨s0, s1, s2, s3, s4, s5, s6, s7, s8, s9, s10, s11, s12, s13, s14, s15, s16⟩
        go_simp
        with_reducible rfl
       rotate_left
       · simp only [Act.put, z80ad_q1, z80ad_q2, z80ad_q3, i64_w, i32_w]; rfl
       refine take_ (i := 17) (N := some 47) (v := ?_) (a' := ?_) z80ad_m35 rfl rfl (take_ofW HT_.out HW_.out (by kernel_rfl)) (fun _ _ _ h => h) (Or.inl ⟨by rfl, ?_⟩) hHeld ?_ ?_
       rotate_left
       ·
        rintro w' ⟨s0, s1, s2, s3, s4, s5, s6, s7, s8, s9, s10, s11, s12, s13, s14, s15, s16⟩
        go_simp
        with_reducible rfl
       rotate_left
       · simp only [Act.put, z80ad_q1, z80ad_q2, z80ad_q3, i64_w, i32_w]; rfl
       refine z80ad_u 18 48 z80ad_m36 HT_ (v := ?_) (a' := ?_) rfl rfl (by kernel_rfl) (fun _ _ _ h => h) (Or.inl ⟨by rfl, ?_⟩) ?_ ?_
       rotate_left
       · intro w'; go_simp; with_reducible rfl
       rotate_left
       · simp only [Act.put, z80ad_q1, z80ad_q2, z80ad_q3, i64_w, i32_w]; rfl
       refine z80ad_u 19 49 z80ad_m37 HT_ (v := ?_) (a' := ?_) rfl rfl (by kernel_rfl) (fun _ _ _ h => h) (Or.inl ⟨by rfl, ?_⟩) ?_ ?_
       rotate_left
       · intro w'; go_simp; with_reducible rfl
       rotate_left
       · simp only [Act.put, z80ad_q1, z80ad_q2, z80ad_q3, i64_w, i32_w]; rfl
       refine z80ad_u 20 50 z80ad_m38 HT_ (v := ?_) (a' := ?_) rfl rfl (by kernel_rfl) (fun _ _ _ h => h) (Or.inl ⟨by rfl, ?_⟩) ?_ ?_
       rotate_left
       · intro w'; go_simp; with_reducible rfl
       rotate_left
       · simp only [Act.put, z80ad_q1, z80ad_q2, z80ad_q3, i64_w, i32_w]; rfl
       refine z80ad_u 21 51 z80ad_m39 HT_ (v := ?_) (a' := ?_) rfl rfl (by kernel_rfl) (fun _ _ _ h => h) (Or.inl ⟨by rfl, ?_⟩) ?_ ?_
       rotate_left
       · intro w'; go_simp; with_reducible rfl
       rotate_left
       · simp only [Act.put, z80ad_q1, z80ad_q2, z80ad_q3, i64_w, i32_w]; rfl
       refine z80ad_u 23 53 z80ad_m40 HT_ (v := ?_) (a' := ?_) rfl rfl (by kernel_rfl) (fun _ _ _ h => h) (Or.inl ⟨by rfl, ?_⟩) ?_ ?_
       rotate_left
       · intro w'; go_simp; with_reducible rfl
       rotate_left
       · simp only [Act.put, z80ad_q1, z80ad_q2, z80ad_q3, i64_w, i32_w]; rfl
       refine take_ (i := 22) (N := some 52) (v := ?_) (a' := ?_) z80ad_m41 rfl rfl (take_ofW HT_.out HW_.out (by kernel_rfl)) (fun _ _ _ h => h) (Or.inl ⟨by rfl, ?_⟩) hHeld ?_ ?_
       rotate_left
       ·
        rintro w' ⟨s0, s1, s2, s3, s4, s5, s6, s7, s8, s9, s10, s11, s12, s13, s14, s15, s16⟩
        go_simp
        with_reducible rfl
       rotate_left
       · simp only [Act.put, z80ad_q1, z80ad_q2, z80ad_q3, i64_w, i32_w]; rfl
       refine take_ (i := 24) (N := some 54) (v := ?_) (a' := ?_) z80ad_m42 rfl rfl (take_ofW HT_.out HW_.out (by kernel_rfl)) (fun _ _ _ h => h) (Or.inl ⟨by rfl, ?_⟩) hHeld ?_ ?_
       rotate_left
       ·
        rintro w' ⟨s0, s1, s2, s3, s4, s5, s6, s7, s8, s9, s10, s11, s12, s13, s14, s15, s16⟩
        go_simp
        with_reducible rfl
       rotate_left
       · simp only [Act.put, z80ad_q1, z80ad_q2, z80ad_q3, i64_w, i32_w]; rfl
       refine z80ad_u 25 55 z80ad_m43 HT_ (v := ?_) (a' := ?_) rfl rfl (by kernel_rfl) (fun _ _ _ h => h) (Or.inl ⟨by rfl, ?_⟩) ?_ ?_
       rotate_left
       · intro w'; go_simp; with_reducible rfl
       rotate_left
       · simp only [Act.put, z80ad_q1, z80ad_q2, z80ad_q3, i64_w, i32_w]; rfl
       refine z80ad_u 26 56 z80ad_m44 HT_ (v := ?_) (a' := ?_) rfl rfl (by kernel_rfl) (fun _ _ _ h => h) (Or.inl ⟨by rfl, ?_⟩) ?_ ?_
       rotate_left
       · intro w'; go_simp; with_reducible rfl
       rotate_left
       · simp only [Act.put, z80ad_q1, z80ad_q2, z80ad_q3, i64_w, i32_w]; rfl
       refine z80ad_u 27 57 z80ad_m45 HT_ (v := ?_) (a' := ?_) rfl rfl (by kernel_rfl) (fun _ _ _ h => h) (Or.inl ⟨by rfl, ?_⟩) ?_ ?_
       rotate_left
       · intro w'; go_simp; with_reducible rfl
       rotate_left
       · simp only [Act.put, z80ad_q1, z80ad_q2, z80ad_q3, i64_w, i32_w]; rfl
       refine take_ (i := 28) (N := some 58) (v := ?_) (a' := ?_) z80ad_m46 rfl rfl (take_ofW HT_.out HW_.out (by kernel_rfl)) (fun _ _ _ h => h) (Or.inl ⟨by rfl, ?_⟩) hHeld ?_ ?_
       rotate_left
       ·
        rintro w' ⟨s0, s1, s2, s3, s4, s5, s6, s7, s8, s9, s10, s11, s12, s13, s14, s15, s16⟩
        go_simp
        with_reducible rfl
       rotate_left
       · simp only [Act.put, z80ad_q1, z80ad_q2, z80ad_q3, i64_w, i32_w]; rfl
       refine take_ (i := 29) (N := some 59) (v := ?_) (a' := ?_) z80ad_m47 rfl rfl (take_ofW HT_.out HW_.out (by kernel_rfl)) (fun _ _ _ h => h) (Or.inl ⟨by rfl, ?_⟩) hHeld ?_ ?_
       rotate_left
       ·
        rintro w' ⟨s0, s1, s2, s3, s4, s5, s6, s7, s8, s9, s10, s11, s12, s13, s14, s15, s16⟩
        go_simp
        with_reducible rfl
       rotate_left
       · simp only [Act.put, z80ad_q1, z80ad_q2, z80ad_q3, i64_w, i32_w]; rfl
       refine take_ (i := 31) (N := some 61) (v := ?_) (a' := ?_) z80ad_m48 rfl rfl (take_ofW HT_.out HW_.out (by kernel_rfl)) (fun _ _ _ h => h) (Or.inl ⟨by rfl, ?_⟩) hHeld ?_ ?_
       rotate_left
       ·
        rintro w' ⟨s0, s1, s2, s3, s4, s5, s6, s7, s8, s9, s10, s11, s12, s13, s14, s15, s16⟩
        go_simp
        with_reducible rfl
       rotate_left
       · simp only [Act.put, z80ad_q1, z80ad_q2, z80ad_q3, i64_w, i32_w]; rfl
       refine take_ (i := 32) (N := some 62) (v := ?_) (a' := ?_) z80ad_m49 rfl rfl (take_ofW HT_.out HW_.out (by kernel_rfl)) (fun _ _ _ h => h) (Or.inl ⟨by rfl, ?_⟩) hHeld ?_ ?_
       rotate_left
       ·
        rintro w' ⟨s0, s1, s2, s3, s4, s5, s6, s7, s8, s9, s10, s11, s12, s13, s14, s15, s16⟩
        go_simp
        with_reducible rfl
       rotate_left
       · simp only [Act.put, z80ad_q1, z80ad_q2, z80ad_q3, i64_w, i32_w]; rfl
       refine one_ (i := 30) (N := some 60) z80ad_m50 rfl rfl (one_of HT_.out (by kernel_rfl)) (by decide) (fun K hK => ?_)
       refine goes_ Tryd.func12 (by kernel_rfl) rfl #[.agg #[.int .i64 a0_0, .int .i64 a0_1, .int .i64 a0_2, .int .i64 a0_3, .int .i64 a0_4], .agg #[.int .i64 a2_0, .int .i64 a2_1, .bool a2_2, .int .i64 a2_3, .int .i64 a2_4, .int .i64 a2_5]] (by rfl) rfl rfl (by (try simp only [List.map_toArray, List.map_cons, List.map_nil]); first | done | rfl | (simp only [List.length_drop, List.length_take]; rfl)) ?_
       with_reducible refine (value_Counts.calls a0_0 a0_1 a0_2 a0_3 a0_4 a2_0 a2_1 a2_2 a2_3 a2_4 a2_5 t251 _ A35.out).mono ?_
       rintro e w41 ⟨rfl, hb⟩
       refine ⟨_, rfl, ?_⟩
       have n0_ := Aside0.mk (blk_below (g := gb231) (o := .cells #[.int .i64 a0_0, .int .i64 a0_1, .int .i64 a0_2, .int .i64 a0_3, .int .i64 a0_4] 23 (0, 0)) (by (with_reducible repeat (first | refine blk_drewN ?_ _ | refine blk_drew ?_ | refine blk_alloc ?_ _)); exact BK231.out) hb)
       have n1_ := Aside0.mk (blk_below (g := gb232) (o := .cells #[.int .i64 a2_0, .int .i64 a2_1, .bool a2_2, .int .i64 a2_3, .int .i64 a2_4, .int .i64 a2_5] 25 (0, 0)) (by (with_reducible repeat (first | refine blk_drewN ?_ _ | refine blk_drew ?_ | refine blk_alloc ?_ _)); exact BK232.out) hb)
       have n2_ := Aside0.mk (blk_below (g := gb238) (o := .cells #[.int .i64 t234, .int .i64 t235, .int .i64 t236] 28 (0, 0)) (by (with_reducible repeat (first | refine blk_drewN ?_ _ | refine blk_drew ?_ | refine blk_alloc ?_ _)); exact BK238.out) hb)
       have n3_ := Aside0.mk (blk_below (g := gb249) (o := .cells #[.int .i64 t245, .int .i64 t246, .int .i64 t247] 33 (0, 0)) (by (with_reducible repeat (first | refine blk_drewN ?_ _ | refine blk_drew ?_ | refine blk_alloc ?_ _)); exact BK249.out) hb)
       have n4_ := Aside0.mk (below_step (by repeat (first | (with_reducible first | exact HB.out | apply below_alloc | apply pw_below_drewN | apply below_drew1 | refine below_set ?_ GE231.out | refine below_set ?_ GE232.out | refine below_set ?_ GE238.out | refine below_set ?_ GE249.out) | exact HB.out)) hb)
       clear BK231
       clear BK232
       clear BK238
       clear BK249
       clear HB
       have BK231 := n0_
       have BK232 := n1_
       have BK238 := n2_
       have BK249 := n3_
       have HB := n4_
       clear n0_ n1_ n2_ n3_ n4_
       (try clear hb)
       (try clear hb2)
       (try clear hk)
       (try clear hi)
       refine hK.out _ _ ⟨(blk_cell BK238.out 0).trans rfl, (blk_cell BK238.out 1).trans rfl, (blk_cell BK238.out 2).trans rfl, (blk_cell BK249.out 0).trans rfl, (blk_cell BK249.out 1).trans rfl, (blk_cell BK249.out 2).trans rfl, (blk_cell BK231.out 0).trans rfl, (blk_cell BK231.out 1).trans rfl, (blk_cell BK231.out 2).trans rfl, (blk_cell BK231.out 3).trans rfl, (blk_cell BK231.out 4).trans rfl, (blk_cell BK232.out 0).trans rfl, (blk_cell BK232.out 1).trans rfl, (blk_cell BK232.out 2).trans rfl, (blk_cell BK232.out 3).trans rfl, (blk_cell BK232.out 4).trans rfl, (blk_cell BK232.out 5).trans rfl⟩ (fun hHeld => ?_)
       clear hK K
       refine norm_ (a' := ?_) ?_ ?_
       rotate_left
       ·
        show Act.put _ (some 60) _ = _
        simp only [Act.put, z80ad_q1, z80ad_q2, z80ad_q3, i64_w, i32_w]
        rfl
       refine one_ (i := 33) (N := some 63) z80ad_m51 rfl rfl (one_of HT_.out (by kernel_rfl)) (by decide) (fun K hK => ?_)
       refine goes_ Tryd.func10 (by kernel_rfl) rfl #[.agg #[.int .i64 a2_0, .int .i64 a2_1, .bool a2_2, .int .i64 a2_3, .int .i64 a2_4, .int .i64 a2_5]] (by rfl) rfl rfl (by (try simp only [List.map_toArray, List.map_cons, List.map_nil]); first | done | rfl | (simp only [List.length_drop, List.length_take]; rfl)) ?_
       with_reducible refine (pledgelaw15_other.calls a2_0 a2_1 a2_2 a2_3 a2_4 a2_5 t252 t253 t254 t255 t256 t257 _ A36.out).mono ?_
       rintro e w42 ⟨rfl, hb⟩
       refine ⟨_, rfl, ?_⟩
       have n0_ := Aside0.mk (blk_below (g := gb231) (o := .cells #[.int .i64 a0_0, .int .i64 a0_1, .int .i64 a0_2, .int .i64 a0_3, .int .i64 a0_4] 23 (0, 0)) (by (with_reducible repeat (first | refine blk_drewN ?_ _ | refine blk_drew ?_ | refine blk_alloc ?_ _)); exact BK231.out) hb)
       have n1_ := Aside0.mk (blk_below (g := gb232) (o := .cells #[.int .i64 a2_0, .int .i64 a2_1, .bool a2_2, .int .i64 a2_3, .int .i64 a2_4, .int .i64 a2_5] 25 (0, 0)) (by (with_reducible repeat (first | refine blk_drewN ?_ _ | refine blk_drew ?_ | refine blk_alloc ?_ _)); exact BK232.out) hb)
       have n2_ := Aside0.mk (blk_below (g := gb238) (o := .cells #[.int .i64 t234, .int .i64 t235, .int .i64 t236] 28 (0, 0)) (by (with_reducible repeat (first | refine blk_drewN ?_ _ | refine blk_drew ?_ | refine blk_alloc ?_ _)); exact BK238.out) hb)
       have n3_ := Aside0.mk (blk_below (g := gb249) (o := .cells #[.int .i64 t245, .int .i64 t246, .int .i64 t247] 33 (0, 0)) (by (with_reducible repeat (first | refine blk_drewN ?_ _ | refine blk_drew ?_ | refine blk_alloc ?_ _)); exact BK249.out) hb)
       have n4_ := Aside0.mk (below_step (by repeat (first | (with_reducible first | exact HB.out | apply below_alloc | apply pw_below_drewN | apply below_drew1 | refine below_set ?_ GE231.out | refine below_set ?_ GE232.out | refine below_set ?_ GE238.out | refine below_set ?_ GE249.out) | exact HB.out)) hb)
       clear BK231
       clear BK232
       clear BK238
       clear BK249
       clear HB
       have BK231 := n0_
       have BK232 := n1_
       have BK238 := n2_
       have BK249 := n3_
       have HB := n4_
       clear n0_ n1_ n2_ n3_ n4_
       (try clear hb)
       (try clear hb2)
       (try clear hk)
       (try clear hi)
       refine hK.out _ _ ⟨(blk_cell BK238.out 0).trans rfl, (blk_cell BK238.out 1).trans rfl, (blk_cell BK238.out 2).trans rfl, (blk_cell BK249.out 0).trans rfl, (blk_cell BK249.out 1).trans rfl, (blk_cell BK249.out 2).trans rfl, (blk_cell BK231.out 0).trans rfl, (blk_cell BK231.out 1).trans rfl, (blk_cell BK231.out 2).trans rfl, (blk_cell BK231.out 3).trans rfl, (blk_cell BK231.out 4).trans rfl, (blk_cell BK232.out 0).trans rfl, (blk_cell BK232.out 1).trans rfl, (blk_cell BK232.out 2).trans rfl, (blk_cell BK232.out 3).trans rfl, (blk_cell BK232.out 4).trans rfl, (blk_cell BK232.out 5).trans rfl⟩ (fun hHeld => ?_)
       clear hK K
       refine norm_ (a' := ?_) ?_ ?_
       rotate_left
       ·
        show Act.put _ (some 63) _ = _
        simp only [Act.put, z80ad_q1, z80ad_q2, z80ad_q3, i64_w, i32_w]
        rfl
       refine one_ (i := 34) (N := some 64) z80ad_m52 rfl rfl (one_of HT_.out (by kernel_rfl)) (by decide) (fun K hK => ?_)
       refine goes_ Tryd.func13 (by kernel_rfl) rfl #[.agg #[.int .i64 a0_0, .int .i64 a0_1, .int .i64 a0_2, .int .i64 a0_3, .int .i64 a0_4], .agg #[.int .i64 t252, .int .i64 t253, .bool t254, .int .i64 t255, .int .i64 t256, .int .i64 t257]] (by rfl) rfl rfl (by (try simp only [List.map_toArray, List.map_cons, List.map_nil]); first | done | rfl | (simp only [List.length_drop, List.length_take]; rfl)) ?_
       with_reducible refine (pledgeref10_Counts.calls a0_0 a0_1 a0_2 a0_3 a0_4 t252 t253 t254 t255 t256 t257 t258 _ A37.out).mono ?_
       rintro e w43 ⟨rfl, hb⟩
       refine ⟨_, rfl, ?_⟩
       have n0_ := Aside0.mk (blk_below (g := gb231) (o := .cells #[.int .i64 a0_0, .int .i64 a0_1, .int .i64 a0_2, .int .i64 a0_3, .int .i64 a0_4] 23 (0, 0)) (by (with_reducible repeat (first | refine blk_drewN ?_ _ | refine blk_drew ?_ | refine blk_alloc ?_ _)); exact BK231.out) hb)
       have n1_ := Aside0.mk (blk_below (g := gb232) (o := .cells #[.int .i64 a2_0, .int .i64 a2_1, .bool a2_2, .int .i64 a2_3, .int .i64 a2_4, .int .i64 a2_5] 25 (0, 0)) (by (with_reducible repeat (first | refine blk_drewN ?_ _ | refine blk_drew ?_ | refine blk_alloc ?_ _)); exact BK232.out) hb)
       have n2_ := Aside0.mk (blk_below (g := gb238) (o := .cells #[.int .i64 t234, .int .i64 t235, .int .i64 t236] 28 (0, 0)) (by (with_reducible repeat (first | refine blk_drewN ?_ _ | refine blk_drew ?_ | refine blk_alloc ?_ _)); exact BK238.out) hb)
       have n3_ := Aside0.mk (blk_below (g := gb249) (o := .cells #[.int .i64 t245, .int .i64 t246, .int .i64 t247] 33 (0, 0)) (by (with_reducible repeat (first | refine blk_drewN ?_ _ | refine blk_drew ?_ | refine blk_alloc ?_ _)); exact BK249.out) hb)
       have n4_ := Aside0.mk (below_step (by repeat (first | (with_reducible first | exact HB.out | apply below_alloc | apply pw_below_drewN | apply below_drew1 | refine below_set ?_ GE231.out | refine below_set ?_ GE232.out | refine below_set ?_ GE238.out | refine below_set ?_ GE249.out) | exact HB.out)) hb)
       clear BK231
       clear BK232
       clear BK238
       clear BK249
       clear HB
       have BK231 := n0_
       have BK232 := n1_
       have BK238 := n2_
       have BK249 := n3_
       have HB := n4_
       clear n0_ n1_ n2_ n3_ n4_
       (try clear hb)
       (try clear hb2)
       (try clear hk)
       (try clear hi)
       refine hK.out _ _ ⟨(blk_cell BK238.out 0).trans rfl, (blk_cell BK238.out 1).trans rfl, (blk_cell BK238.out 2).trans rfl, (blk_cell BK249.out 0).trans rfl, (blk_cell BK249.out 1).trans rfl, (blk_cell BK249.out 2).trans rfl, (blk_cell BK231.out 0).trans rfl, (blk_cell BK231.out 1).trans rfl, (blk_cell BK231.out 2).trans rfl, (blk_cell BK231.out 3).trans rfl, (blk_cell BK231.out 4).trans rfl, (blk_cell BK232.out 0).trans rfl, (blk_cell BK232.out 1).trans rfl, (blk_cell BK232.out 2).trans rfl, (blk_cell BK232.out 3).trans rfl, (blk_cell BK232.out 4).trans rfl, (blk_cell BK232.out 5).trans rfl⟩ (fun hHeld => ?_)
       clear hK K
       refine norm_ (a' := ?_) ?_ ?_
       rotate_left
       ·
        show Act.put _ (some 64) _ = _
        simp only [Act.put, z80ad_q1, z80ad_q2, z80ad_q3, i64_w, i32_w]
        rfl
       refine z80ad_u 35 65 z80ad_m53 HT_ (v := ?_) (a' := ?_) rfl rfl (by kernel_rfl) (fun _ _ _ h => h) (Or.inl ⟨by rfl, ?_⟩) ?_ ?_
       rotate_left
       · intro w'; go_simp; with_reducible rfl
       rotate_left
       · simp only [Act.put, z80ad_q1, z80ad_q2, z80ad_q3, i64_w, i32_w]; rfl
       refine z80ad_u 36 66 z80ad_m54 HT_ (v := ?_) (a' := ?_) rfl rfl (by kernel_rfl) (fun _ _ _ h => h) (Or.inl ⟨by rfl, ?_⟩) ?_ ?_
       rotate_left
       · intro w'; go_simp; with_reducible rfl
       rotate_left
       · simp only [Act.put, z80ad_q1, z80ad_q2, z80ad_q3, i64_w, i32_w]; rfl
       refine z80ad_u 37 6 z80ad_m55 HT_ (v := ?_) (a' := ?_) rfl rfl (by kernel_rfl) (fun _ _ _ h => h) (Or.inl ⟨by rfl, ?_⟩) ?_ ?_
       rotate_left
       · intro w'; go_simp; with_reducible rfl
       rotate_left
       · simp only [Act.put, z80ad_q1, z80ad_q2, z80ad_q3, i64_w, i32_w]; rfl
       refine done_ (done_of HT_.out (by kernel_rfl)) ?_
       try go_wp2
       go_meet
       case rel => exact ⟨_, ((t251 == t258)), (by first | rfl | (simp; done) | (simp [*]; done)), H', ⟨by first | omega | exact Nat.le_refl _⟩, ⟨by (with_reducible repeat (first | refine blk_drewN ?_ _ | refine blk_drew ?_ | refine blk_alloc ?_ _)); exact BK231.out⟩, ⟨by (with_reducible repeat (first | refine blk_drewN ?_ _ | refine blk_drew ?_ | refine blk_alloc ?_ _)); exact BK232.out⟩, ⟨by (with_reducible repeat (first | refine blk_drewN ?_ _ | refine blk_drew ?_ | refine blk_alloc ?_ _)); exact BK238.out⟩, ⟨by (with_reducible repeat (first | refine blk_drewN ?_ _ | refine blk_drew ?_ | refine blk_alloc ?_ _)); exact BK249.out⟩, ⟨by repeat (first | (with_reducible first | exact HB.out | apply below_alloc | apply pw_below_drewN | apply below_drew1 | refine below_set ?_ GE231.out | refine below_set ?_ GE232.out | refine below_set ?_ GE238.out | refine below_set ?_ GE249.out) | exact HB.out)⟩⟩
      ·
       rw [if_neg c34] at H
       have c34b0 : (t236 == t247) = false := beq_eq_false_iff_ne.mpr c34
       have c34b1 : (t236 != t247) = true := bne_iff_ne.mpr c34
       have H' := Aside0.mk H
       clear H
       try go_wp2
       have n0_ : Aside0 ((((w26.setCell ⟨gb249, 0, none⟩ (.int .i64 t245)).setCell ⟨gb249, 1, none⟩ (.int .i64 t246)).setCell ⟨gb249, 2, none⟩ (.int .i64 t247)).heap[gb231]? = some (.cells #[.int .i64 a0_0, .int .i64 a0_1, .int .i64 a0_2, .int .i64 a0_3, .int .i64 a0_4] 23 (0, 0))) := ⟨by (with_reducible repeat (first | refine blk_drewN ?_ _ | refine blk_drew ?_ | refine blk_alloc ?_ _ | refine blk_far ?_ NB231_249.out _)); exact BK231.out⟩
       have n1_ : Aside0 ((((w26.setCell ⟨gb249, 0, none⟩ (.int .i64 t245)).setCell ⟨gb249, 1, none⟩ (.int .i64 t246)).setCell ⟨gb249, 2, none⟩ (.int .i64 t247)).heap[gb232]? = some (.cells #[.int .i64 a2_0, .int .i64 a2_1, .bool a2_2, .int .i64 a2_3, .int .i64 a2_4, .int .i64 a2_5] 25 (0, 0))) := ⟨by (with_reducible repeat (first | refine blk_drewN ?_ _ | refine blk_drew ?_ | refine blk_alloc ?_ _ | refine blk_far ?_ NB232_249.out _)); exact BK232.out⟩
       have n2_ : Aside0 ((((w26.setCell ⟨gb249, 0, none⟩ (.int .i64 t245)).setCell ⟨gb249, 1, none⟩ (.int .i64 t246)).setCell ⟨gb249, 2, none⟩ (.int .i64 t247)).heap[gb238]? = some (.cells #[.int .i64 t234, .int .i64 t235, .int .i64 t236] 28 (0, 0))) := ⟨by (with_reducible repeat (first | refine blk_drewN ?_ _ | refine blk_drew ?_ | refine blk_alloc ?_ _ | refine blk_far ?_ NB238_249.out _)); exact BK238.out⟩
       have n3_ : Aside0 ((((w26.setCell ⟨gb249, 0, none⟩ (.int .i64 t245)).setCell ⟨gb249, 1, none⟩ (.int .i64 t246)).setCell ⟨gb249, 2, none⟩ (.int .i64 t247)).heap[gb249]? = some (.cells #[.int .i64 t245, .int .i64 t246, .int .i64 t247] 33 (0, 0))) := ⟨by (with_reducible repeat (first | refine blk_drewN ?_ _ | refine blk_drew ?_ | refine blk_alloc ?_ _)); refine blk_put (cs := #[.int .i64 t245, .int .i64 t246, .int .i64 0]) ?_ 2 _ rfl; (with_reducible repeat (first | refine blk_drewN ?_ _ | refine blk_drew ?_ | refine blk_alloc ?_ _)); refine blk_put (cs := #[.int .i64 t245, .int .i64 0, .int .i64 0]) ?_ 1 _ rfl; (with_reducible repeat (first | refine blk_drewN ?_ _ | refine blk_drew ?_ | refine blk_alloc ?_ _)); refine blk_put (cs := #[.int .i64 0, .int .i64 0, .int .i64 0]) ?_ 0 _ rfl; (with_reducible repeat (first | refine blk_drewN ?_ _ | refine blk_drew ?_ | refine blk_alloc ?_ _)); exact BK249.out⟩
       have n4_ : Aside0 (Below w.heap.size w (((w26.setCell ⟨gb249, 0, none⟩ (.int .i64 t245)).setCell ⟨gb249, 1, none⟩ (.int .i64 t246)).setCell ⟨gb249, 2, none⟩ (.int .i64 t247))) := ⟨by repeat (first | (with_reducible first | exact HB.out | apply below_alloc | apply pw_below_drewN | apply below_drew1 | refine below_set ?_ GE231.out | refine below_set ?_ GE232.out | refine below_set ?_ GE238.out | refine below_set ?_ GE249.out) | exact HB.out)⟩
       (try clear BK231)
       (try clear BK232)
       (try clear BK238)
       (try clear BK249)
       (try clear HB)
       generalize (((w26.setCell ⟨gb249, 0, none⟩ (.int .i64 t245)).setCell ⟨gb249, 1, none⟩ (.int .i64 t246)).setCell ⟨gb249, 2, none⟩ (.int .i64 t247)) = w44 at n0_ n1_ n2_ n3_ n4_ ⊢
       have BK231 := n0_
       have BK232 := n1_
       have BK238 := n2_
       have BK249 := n3_
       have HB := n4_
       clear n0_ n1_ n2_ n3_ n4_
       (try (rw [drewN_self w44]; generalize hq_ : World.drewN w44 _ = w44; have n0_ : Aside0 (w44.heap[gb231]? = some (.cells #[.int .i64 a0_0, .int .i64 a0_1, .int .i64 a0_2, .int .i64 a0_3, .int .i64 a0_4] 23 (0, 0))) := ⟨by rw [← hq_]; exact (by (with_reducible repeat (first | refine blk_drewN ?_ _ | refine blk_drew ?_ | refine blk_alloc ?_ _)); exact BK231.out)⟩; have n1_ : Aside0 (w44.heap[gb232]? = some (.cells #[.int .i64 a2_0, .int .i64 a2_1, .bool a2_2, .int .i64 a2_3, .int .i64 a2_4, .int .i64 a2_5] 25 (0, 0))) := ⟨by rw [← hq_]; exact (by (with_reducible repeat (first | refine blk_drewN ?_ _ | refine blk_drew ?_ | refine blk_alloc ?_ _)); exact BK232.out)⟩; have n2_ : Aside0 (w44.heap[gb238]? = some (.cells #[.int .i64 t234, .int .i64 t235, .int .i64 t236] 28 (0, 0))) := ⟨by rw [← hq_]; exact (by (with_reducible repeat (first | refine blk_drewN ?_ _ | refine blk_drew ?_ | refine blk_alloc ?_ _)); exact BK238.out)⟩; have n3_ : Aside0 (w44.heap[gb249]? = some (.cells #[.int .i64 t245, .int .i64 t246, .int .i64 t247] 33 (0, 0))) := ⟨by rw [← hq_]; exact (by (with_reducible repeat (first | refine blk_drewN ?_ _ | refine blk_drew ?_ | refine blk_alloc ?_ _)); exact BK249.out)⟩; have n4_ : Aside0 (Below w.heap.size w w44) := ⟨by rw [← hq_]; exact (by repeat (first | (with_reducible first | exact HB.out | apply below_alloc | apply pw_below_drewN | apply below_drew1 | refine below_set ?_ GE231.out | refine below_set ?_ GE232.out | refine below_set ?_ GE238.out | refine below_set ?_ GE249.out) | exact HB.out))⟩; clear BK231 BK232 BK238 BK249 HB hq_; have BK231 := n0_; have BK232 := n1_; have BK238 := n2_; have BK249 := n3_; have HB := n4_; clear n0_ n1_ n2_ n3_ n4_))
       have n0_ := Aside0.mk (blk_drew BK231.out)
       have n1_ := Aside0.mk (blk_drew BK232.out)
       have n2_ := Aside0.mk (blk_drew BK238.out)
       have n3_ := Aside0.mk (blk_drew BK249.out)
       have n4_ := Aside0.mk (below_drew1 HB.out)
       clear BK231
       clear BK232
       clear BK238
       clear BK249
       clear HB
       have BK231 := n0_
       have BK232 := n1_
       have BK238 := n2_
       have BK249 := n3_
       have HB := n4_
       clear n0_ n1_ n2_ n3_ n4_
       have CA30 := fun W hG_ => pledgesee_Is.calls t237 t248 true W hG_ A30.out
       try simp only [errW_none, errW_some] at CA30
       refine start_ (n := 38) (S := fun w' => w'.cell? ⟨gb238, 0, none⟩ = some (.int .i64 t234) ∧ w'.cell? ⟨gb238, 1, none⟩ = some (.int .i64 t235) ∧ w'.cell? ⟨gb238, 2, none⟩ = some (.int .i64 t236) ∧ w'.cell? ⟨gb249, 0, none⟩ = some (.int .i64 t245) ∧ w'.cell? ⟨gb249, 1, none⟩ = some (.int .i64 t246) ∧ w'.cell? ⟨gb249, 2, none⟩ = some (.int .i64 t247)) (ds := []) z80ad_m17 (by kernel_rfl) rfl rfl ⟨(blk_cell BK238.out 0).trans rfl, (blk_cell BK238.out 1).trans rfl, (blk_cell BK238.out 2).trans rfl, (blk_cell BK249.out 0).trans rfl, (blk_cell BK249.out 1).trans rfl, (blk_cell BK249.out 2).trans rfl⟩ (fun hHeld => ?_); refine with_tabW pledgelaw15_ValueSays.tab6 pledgelaw15_ValueSays.bits6 (fun HT_ HW_ => ?_)
       generalize w44.drew = w45 at BK231 BK232 BK238 BK249 HB hHeld ⊢
       refine z80ad_u 0 30 z80ad_m18 HT_ (v := ?_) (a' := ?_) rfl rfl (by kernel_rfl) (fun _ _ _ h => h) (Or.inl ⟨by rfl, ?_⟩) ?_ ?_
       rotate_left
       · intro w'; go_simp; with_reducible rfl
       rotate_left
       · simp only [Act.put, z80ad_q1, z80ad_q2, z80ad_q3, i64_w, i32_w]; rfl
       refine z80ad_u 1 31 z80ad_m19 HT_ (v := ?_) (a' := ?_) rfl rfl (by kernel_rfl) (fun _ _ _ h => h) (Or.inl ⟨by rfl, ?_⟩) ?_ ?_
       rotate_left
       · intro w'; go_simp; with_reducible rfl
       rotate_left
       · simp only [Act.put, z80ad_q1, z80ad_q2, z80ad_q3, i64_w, i32_w]; rfl
       refine z80ad_u 2 32 z80ad_m20 HT_ (v := ?_) (a' := ?_) rfl rfl (by kernel_rfl) (fun _ _ _ h => h) (Or.inl ⟨by rfl, ?_⟩) ?_ ?_
       rotate_left
       · intro w'; go_simp; with_reducible rfl
       rotate_left
       · simp only [Act.put, z80ad_q1, z80ad_q2, z80ad_q3, i64_w, i32_w]; rfl
       refine z80ad_u 3 33 z80ad_m21 HT_ (v := ?_) (a' := ?_) rfl rfl (by kernel_rfl) (fun _ _ _ h => h) (Or.inl ⟨by rfl, ?_⟩) ?_ ?_
       rotate_left
       · intro w'; go_simp; with_reducible rfl
       rotate_left
       · simp only [Act.put, z80ad_q1, z80ad_q2, z80ad_q3, i64_w, i32_w]; rfl
       refine one_ (i := 4) (N := some 34) z80ad_m22 rfl rfl (one_of HT_.out (by kernel_rfl)) (by decide) (fun K hK => ?_)
       refine goes_ Tryd.func11 (by kernel_rfl) rfl #[errW t237, .int .i64 t248] (by rfl) rfl rfl (by (try simp only [List.map_toArray, List.map_cons, List.map_nil]); first | done | rfl | (simp only [List.length_drop, List.length_take]; rfl)) ?_
       with_reducible refine (CA30 _ ?side1).mono ?_
       (case side1 => exact GlobOK.below HG.out (by repeat (first | (with_reducible first | exact HB.out | apply below_alloc | apply pw_below_drewN | apply below_drew1 | refine below_set ?_ GE231.out | refine below_set ?_ GE232.out | refine below_set ?_ GE238.out | refine below_set ?_ GE249.out) | exact HB.out)))
       rintro e w46 ⟨rfl, hb⟩
       refine ⟨_, rfl, ?_⟩
       have n0_ := Aside0.mk (blk_below (g := gb231) (o := .cells #[.int .i64 a0_0, .int .i64 a0_1, .int .i64 a0_2, .int .i64 a0_3, .int .i64 a0_4] 23 (0, 0)) (by (with_reducible repeat (first | refine blk_drewN ?_ _ | refine blk_drew ?_ | refine blk_alloc ?_ _)); exact BK231.out) hb)
       have n1_ := Aside0.mk (blk_below (g := gb232) (o := .cells #[.int .i64 a2_0, .int .i64 a2_1, .bool a2_2, .int .i64 a2_3, .int .i64 a2_4, .int .i64 a2_5] 25 (0, 0)) (by (with_reducible repeat (first | refine blk_drewN ?_ _ | refine blk_drew ?_ | refine blk_alloc ?_ _)); exact BK232.out) hb)
       have n2_ := Aside0.mk (blk_below (g := gb238) (o := .cells #[.int .i64 t234, .int .i64 t235, .int .i64 t236] 28 (0, 0)) (by (with_reducible repeat (first | refine blk_drewN ?_ _ | refine blk_drew ?_ | refine blk_alloc ?_ _)); exact BK238.out) hb)
       have n3_ := Aside0.mk (blk_below (g := gb249) (o := .cells #[.int .i64 t245, .int .i64 t246, .int .i64 t247] 33 (0, 0)) (by (with_reducible repeat (first | refine blk_drewN ?_ _ | refine blk_drew ?_ | refine blk_alloc ?_ _)); exact BK249.out) hb)
       have n4_ := Aside0.mk (below_step (by repeat (first | (with_reducible first | exact HB.out | apply below_alloc | apply pw_below_drewN | apply below_drew1 | refine below_set ?_ GE231.out | refine below_set ?_ GE232.out | refine below_set ?_ GE238.out | refine below_set ?_ GE249.out) | exact HB.out)) hb)
       clear BK231
       clear BK232
       clear BK238
       clear BK249
       clear HB
       have BK231 := n0_
       have BK232 := n1_
       have BK238 := n2_
       have BK249 := n3_
       have HB := n4_
       clear n0_ n1_ n2_ n3_ n4_
       (try clear hb)
       (try clear hb2)
       (try clear hk)
       (try clear hi)
       refine hK.out _ _ ⟨(blk_cell BK238.out 0).trans rfl, (blk_cell BK238.out 1).trans rfl, (blk_cell BK238.out 2).trans rfl, (blk_cell BK249.out 0).trans rfl, (blk_cell BK249.out 1).trans rfl, (blk_cell BK249.out 2).trans rfl⟩ (fun hHeld => ?_)
       clear hK K
       refine norm_ (a' := ?_) ?_ ?_
       rotate_left
       ·
        show Act.put _ (some 34) _ = _
        simp only [Act.put, z80ad_q1, z80ad_q2, z80ad_q3, i64_w, i32_w]
        rfl
       refine z80ad_u 5 35 z80ad_m23 HT_ (v := ?_) (a' := ?_) rfl rfl (by kernel_rfl) (fun _ _ _ h => h) (Or.inl ⟨by rfl, ?_⟩) ?_ ?_
       rotate_left
       · intro w'; go_simp; with_reducible rfl
       rotate_left
       · simp only [Act.put, z80ad_q1, z80ad_q2, z80ad_q3, i64_w, i32_w]; rfl
       refine z80ad_u 6 36 z80ad_m24 HT_ (v := ?_) (a' := ?_) rfl rfl (by kernel_rfl) (fun _ _ _ h => h) (Or.inl ⟨by rfl, ?_⟩) ?_ ?_
       rotate_left
       · intro w'; go_simp; with_reducible rfl
       rotate_left
       · simp only [Act.put, z80ad_q1, z80ad_q2, z80ad_q3, i64_w, i32_w]; rfl
       refine z80ad_u 7 37 z80ad_m25 HT_ (v := ?_) (a' := ?_) rfl rfl (by kernel_rfl) (fun _ _ _ h => h) (Or.inl ⟨by rfl, ?_⟩) ?_ ?_
       rotate_left
       · intro w'; go_simp; with_reducible rfl
       rotate_left
       · simp only [Act.put, z80ad_q1, z80ad_q2, z80ad_q3, i64_w, i32_w]; rfl
       refine z80ad_u 9 39 z80ad_m26 HT_ (v := ?_) (a' := ?_) rfl rfl (by kernel_rfl) (fun _ _ _ h => h) (Or.inl ⟨by rfl, ?_⟩) ?_ ?_
       rotate_left
       · intro w'; go_simp; with_reducible rfl
       rotate_left
       · simp only [Act.put, z80ad_q1, z80ad_q2, z80ad_q3, i64_w, i32_w]; rfl
       refine take_ (i := 8) (N := some 38) (v := ?_) (a' := ?_) z80ad_m27 rfl rfl (take_ofW HT_.out HW_.out (by kernel_rfl)) (fun _ _ _ h => h) (Or.inl ⟨by rfl, ?_⟩) hHeld ?_ ?_
       rotate_left
       ·
        rintro w' ⟨s0, s1, s2, s3, s4, s5⟩
        go_simp
        with_reducible rfl
       rotate_left
       · simp only [Act.put, z80ad_q1, z80ad_q2, z80ad_q3, i64_w, i32_w]; rfl
       refine take_ (i := 10) (N := some 40) (v := ?_) (a' := ?_) z80ad_m28 rfl rfl (take_ofW HT_.out HW_.out (by kernel_rfl)) (fun _ _ _ h => h) (Or.inl ⟨by rfl, ?_⟩) hHeld ?_ ?_
       rotate_left
       ·
        rintro w' ⟨s0, s1, s2, s3, s4, s5⟩
        go_simp
        with_reducible rfl
       rotate_left
       · simp only [Act.put, z80ad_q1, z80ad_q2, z80ad_q3, i64_w, i32_w]; rfl
       refine z80ad_u 11 41 z80ad_m29 HT_ (v := ?_) (a' := ?_) rfl rfl (by kernel_rfl) (fun _ _ _ h => h) (Or.inl ⟨by rfl, ?_⟩) ?_ ?_
       rotate_left
       · intro w'; go_simp; with_reducible rfl
       rotate_left
       · simp only [Act.put, z80ad_q1, z80ad_q2, z80ad_q3, i64_w, i32_w]; rfl
       refine z80ad_u 12 42 z80ad_m30 HT_ (v := ?_) (a' := ?_) rfl rfl (by kernel_rfl) (fun _ _ _ h => h) (Or.inl ⟨by rfl, ?_⟩) ?_ ?_
       rotate_left
       · intro w'; go_simp; with_reducible rfl
       rotate_left
       · simp only [Act.put, z80ad_q1, z80ad_q2, z80ad_q3, i64_w, i32_w]; rfl
       refine z80ad_u 13 43 z80ad_m31 HT_ (v := ?_) (a' := ?_) rfl rfl (by kernel_rfl) (fun _ _ _ h => h) (Or.inl ⟨by rfl, ?_⟩) ?_ ?_
       rotate_left
       · intro w'; go_simp; with_reducible rfl
       rotate_left
       · simp only [Act.put, z80ad_q1, z80ad_q2, z80ad_q3, i64_w, i32_w]; rfl
       refine z80ad_u 14 44 z80ad_m32 HT_ (v := ?_) (a' := ?_) rfl rfl (by kernel_rfl) (fun _ _ _ h => h) (Or.inl ⟨by rfl, ?_⟩) ?_ ?_
       rotate_left
       · intro w'; go_simp; with_reducible rfl
       rotate_left
       · simp only [Act.put, z80ad_q1, z80ad_q2, z80ad_q3, i64_w, i32_w]; rfl
       refine z80ad_u 16 46 z80ad_m33 HT_ (v := ?_) (a' := ?_) rfl rfl (by kernel_rfl) (fun _ _ _ h => h) (Or.inl ⟨by rfl, ?_⟩) ?_ ?_
       rotate_left
       · intro w'; go_simp; with_reducible rfl
       rotate_left
       · simp only [Act.put, z80ad_q1, z80ad_q2, z80ad_q3, i64_w, i32_w]; rfl
       refine take_ (i := 15) (N := some 45) (v := ?_) (a' := ?_) z80ad_m34 rfl rfl (take_ofW HT_.out HW_.out (by kernel_rfl)) (fun _ _ _ h => h) (Or.inl ⟨by rfl, ?_⟩) hHeld ?_ ?_
       rotate_left
       ·
        rintro w' ⟨s0, s1, s2, s3, s4, s5⟩
        go_simp
        with_reducible rfl
       rotate_left
       · simp only [Act.put, z80ad_q1, z80ad_q2, z80ad_q3, i64_w, i32_w]; rfl
       refine take_ (i := 17) (N := some 47) (v := ?_) (a' := ?_) z80ad_m35 rfl rfl (take_ofW HT_.out HW_.out (by kernel_rfl)) (fun _ _ _ h => h) (Or.inl ⟨by rfl, ?_⟩) hHeld ?_ ?_
       rotate_left
       ·
        rintro w' ⟨s0, s1, s2, s3, s4, s5⟩
        go_simp
        with_reducible rfl
       rotate_left
       · simp only [Act.put, z80ad_q1, z80ad_q2, z80ad_q3, i64_w, i32_w]; rfl
       refine z80ad_u 18 48 z80ad_m36 HT_ (v := ?_) (a' := ?_) rfl rfl (by kernel_rfl) (fun _ _ _ h => h) (Or.inl ⟨by rfl, ?_⟩) ?_ ?_
       rotate_left
       · intro w'; go_simp; with_reducible rfl
       rotate_left
       · simp only [Act.put, z80ad_q1, z80ad_q2, z80ad_q3, i64_w, i32_w]; rfl
       refine z80ad_u 19 49 z80ad_m37 HT_ (v := ?_) (a' := ?_) rfl rfl (by kernel_rfl) (fun _ _ _ h => h) (Or.inl ⟨by rfl, ?_⟩) ?_ ?_
       rotate_left
       · intro w'; go_simp; with_reducible rfl
       rotate_left
       · simp only [Act.put, z80ad_q1, z80ad_q2, z80ad_q3, i64_w, i32_w]; rfl
       refine z80ad_u 20 50 z80ad_m38 HT_ (v := ?_) (a' := ?_) rfl rfl (by kernel_rfl) (fun _ _ _ h => h) (Or.inl ⟨by rfl, ?_⟩) ?_ ?_
       rotate_left
       · intro w'; go_simp; with_reducible rfl
       rotate_left
       · simp only [Act.put, z80ad_q1, z80ad_q2, z80ad_q3, i64_w, i32_w]; rfl
       refine z80ad_u 21 51 z80ad_m39 HT_ (v := ?_) (a' := ?_) rfl rfl (by kernel_rfl) (fun _ _ _ h => h) (Or.inl ⟨by rfl, ?_⟩) ?_ ?_
       rotate_left
       · intro w'; go_simp; with_reducible rfl
       rotate_left
       · simp only [Act.put, z80ad_q1, z80ad_q2, z80ad_q3, i64_w, i32_w]; rfl
       refine z80ad_u 23 53 z80ad_m40 HT_ (v := ?_) (a' := ?_) rfl rfl (by kernel_rfl) (fun _ _ _ h => h) (Or.inl ⟨by rfl, ?_⟩) ?_ ?_
       rotate_left
       · intro w'; go_simp; with_reducible rfl
       rotate_left
       · simp only [Act.put, z80ad_q1, z80ad_q2, z80ad_q3, i64_w, i32_w]; rfl
       refine take_ (i := 22) (N := some 52) (v := ?_) (a' := ?_) z80ad_m41 rfl rfl (take_ofW HT_.out HW_.out (by kernel_rfl)) (fun _ _ _ h => h) (Or.inl ⟨by rfl, ?_⟩) hHeld ?_ ?_
       rotate_left
       ·
        rintro w' ⟨s0, s1, s2, s3, s4, s5⟩
        go_simp
        with_reducible rfl
       rotate_left
       · simp only [Act.put, z80ad_q1, z80ad_q2, z80ad_q3, i64_w, i32_w]; rfl
       refine take_ (i := 24) (N := some 54) (v := ?_) (a' := ?_) z80ad_m42 rfl rfl (take_ofW HT_.out HW_.out (by kernel_rfl)) (fun _ _ _ h => h) (Or.inl ⟨by rfl, ?_⟩) hHeld ?_ ?_
       rotate_left
       ·
        rintro w' ⟨s0, s1, s2, s3, s4, s5⟩
        go_simp
        with_reducible rfl
       rotate_left
       · simp only [Act.put, z80ad_q1, z80ad_q2, z80ad_q3, i64_w, i32_w]; rfl
       refine z80ad_u 25 55 z80ad_m43 HT_ (v := ?_) (a' := ?_) rfl rfl (by kernel_rfl) (fun _ _ _ h => h) (Or.inl ⟨by rfl, ?_⟩) ?_ ?_
       rotate_left
       · intro w'; go_simp; with_reducible rfl
       rotate_left
       · simp only [Act.put, z80ad_q1, z80ad_q2, z80ad_q3, i64_w, i32_w]; rfl
       refine z80ad_u 26 56 z80ad_m44 HT_ (v := ?_) (a' := ?_) rfl rfl (by kernel_rfl) (fun _ _ _ h => h) (Or.inl ⟨by rfl, ?_⟩) ?_ ?_
       rotate_left
       · intro w'; go_simp; with_reducible rfl
       rotate_left
       · simp only [Act.put, z80ad_q1, z80ad_q2, z80ad_q3, i64_w, i32_w]; rfl
       refine z80ad_u 27 57 z80ad_m45 HT_ (v := ?_) (a' := ?_) rfl rfl (by kernel_rfl) (fun _ _ _ h => h) (Or.inl ⟨by rfl, ?_⟩) ?_ ?_
       rotate_left
       · intro w'; go_simp; with_reducible rfl
       rotate_left
       · simp only [Act.put, z80ad_q1, z80ad_q2, z80ad_q3, i64_w, i32_w]; rfl
       refine z80ad_u 28 58 z80ad_m46 HT_ (v := undef) (a' := ?_) rfl rfl (by kernel_rfl) (fun _ _ _ h => h) (Or.inr ⟨by rfl, rfl⟩) ?_ ?_
       rotate_left
       · simp only [Act.put, z80ad_q1, z80ad_q2, z80ad_q3, i64_w, i32_w]; rfl
       refine z80ad_u 29 59 z80ad_m47 HT_ (v := undef) (a' := ?_) rfl rfl (by kernel_rfl) (fun _ _ _ h => h) (Or.inr ⟨by rfl, rfl⟩) ?_ ?_
       rotate_left
       · simp only [Act.put, z80ad_q1, z80ad_q2, z80ad_q3, i64_w, i32_w]; rfl
       refine z80ad_u 30 60 z80ad_m56 HT_ (v := undef) (a' := ?_) rfl rfl (by kernel_rfl) (fun _ _ _ h => h) (Or.inr ⟨by rfl, rfl⟩) ?_ ?_
       rotate_left
       · simp only [Act.put, z80ad_q1, z80ad_q2, z80ad_q3, i64_w, i32_w]; rfl
       refine z80ad_u 31 61 z80ad_m57 HT_ (v := undef) (a' := ?_) rfl rfl (by kernel_rfl) (fun _ _ _ h => h) (Or.inr ⟨by rfl, rfl⟩) ?_ ?_
       rotate_left
       · simp only [Act.put, z80ad_q1, z80ad_q2, z80ad_q3, i64_w, i32_w]; rfl
       refine z80ad_u 32 62 z80ad_m50 HT_ (v := undef) (a' := ?_) rfl rfl (by kernel_rfl) (fun _ _ _ h => h) (Or.inr ⟨by rfl, rfl⟩) ?_ ?_
       rotate_left
       · simp only [Act.put, z80ad_q1, z80ad_q2, z80ad_q3, i64_w, i32_w]; rfl
       refine z80ad_u 33 63 z80ad_m51 HT_ (v := undef) (a' := ?_) rfl rfl (by kernel_rfl) (fun _ _ _ h => h) (Or.inr ⟨by rfl, rfl⟩) ?_ ?_
       rotate_left
       · simp only [Act.put, z80ad_q1, z80ad_q2, z80ad_q3, i64_w, i32_w]; rfl
       refine z80ad_u 34 64 z80ad_m52 HT_ (v := undef) (a' := ?_) rfl rfl (by kernel_rfl) (fun _ _ _ h => h) (Or.inr ⟨by rfl, rfl⟩) ?_ ?_
       rotate_left
       · simp only [Act.put, z80ad_q1, z80ad_q2, z80ad_q3, i64_w, i32_w]; rfl
       refine z80ad_u 35 65 z80ad_m53 HT_ (v := undef) (a' := ?_) rfl rfl (by kernel_rfl) (fun _ _ _ h => h) (Or.inr ⟨by rfl, rfl⟩) ?_ ?_
       rotate_left
       · simp only [Act.put, z80ad_q1, z80ad_q2, z80ad_q3, i64_w, i32_w]; rfl
       refine z80ad_u 36 66 z80ad_m54 HT_ (v := ?_) (a' := ?_) rfl rfl (by kernel_rfl) (fun _ _ _ h => h) (Or.inl ⟨by rfl, ?_⟩) ?_ ?_
       rotate_left
       · intro w'; go_simp; with_reducible rfl
       rotate_left
       · simp only [Act.put, z80ad_q1, z80ad_q2, z80ad_q3, i64_w, i32_w]; rfl
       refine z80ad_u 37 6 z80ad_m55 HT_ (v := ?_) (a' := ?_) rfl rfl (by kernel_rfl) (fun _ _ _ h => h) (Or.inl ⟨by rfl, ?_⟩) ?_ ?_
       rotate_left
       · intro w'; go_simp; with_reducible rfl
       rotate_left
       · simp only [Act.put, z80ad_q1, z80ad_q2, z80ad_q3, i64_w, i32_w]; rfl
       refine done_ (done_of HT_.out (by kernel_rfl)) ?_
       try go_wp2
       go_meet
       case rel => exact ⟨_, (false), (by first | rfl | (simp; done) | (simp [*]; done)), H', ⟨by first | omega | exact Nat.le_refl _⟩, ⟨by (with_reducible repeat (first | refine blk_drewN ?_ _ | refine blk_drew ?_ | refine blk_alloc ?_ _)); exact BK231.out⟩, ⟨by (with_reducible repeat (first | refine blk_drewN ?_ _ | refine blk_drew ?_ | refine blk_alloc ?_ _)); exact BK232.out⟩, ⟨by (with_reducible repeat (first | refine blk_drewN ?_ _ | refine blk_drew ?_ | refine blk_alloc ?_ _)); exact BK238.out⟩, ⟨by (with_reducible repeat (first | refine blk_drewN ?_ _ | refine blk_drew ?_ | refine blk_alloc ?_ _)); exact BK249.out⟩, ⟨by repeat (first | (with_reducible first | exact HB.out | apply below_alloc | apply pw_below_drewN | apply below_drew1 | refine below_set ?_ GE231.out | refine below_set ?_ GE232.out | refine below_set ?_ GE238.out | refine below_set ?_ GE249.out) | exact HB.out)⟩⟩
     ·
      rw [if_neg c33] at H
      have c33b0 : (t235 == t246) = false := beq_eq_false_iff_ne.mpr c33
      have c33b1 : (t235 != t246) = true := bne_iff_ne.mpr c33
      have H' := Aside0.mk H
      clear H
      try go_wp2
      have n0_ : Aside0 ((((w26.setCell ⟨gb249, 0, none⟩ (.int .i64 t245)).setCell ⟨gb249, 1, none⟩ (.int .i64 t246)).setCell ⟨gb249, 2, none⟩ (.int .i64 t247)).heap[gb231]? = some (.cells #[.int .i64 a0_0, .int .i64 a0_1, .int .i64 a0_2, .int .i64 a0_3, .int .i64 a0_4] 23 (0, 0))) := ⟨by (with_reducible repeat (first | refine blk_drewN ?_ _ | refine blk_drew ?_ | refine blk_alloc ?_ _ | refine blk_far ?_ NB231_249.out _)); exact BK231.out⟩
      have n1_ : Aside0 ((((w26.setCell ⟨gb249, 0, none⟩ (.int .i64 t245)).setCell ⟨gb249, 1, none⟩ (.int .i64 t246)).setCell ⟨gb249, 2, none⟩ (.int .i64 t247)).heap[gb232]? = some (.cells #[.int .i64 a2_0, .int .i64 a2_1, .bool a2_2, .int .i64 a2_3, .int .i64 a2_4, .int .i64 a2_5] 25 (0, 0))) := ⟨by (with_reducible repeat (first | refine blk_drewN ?_ _ | refine blk_drew ?_ | refine blk_alloc ?_ _ | refine blk_far ?_ NB232_249.out _)); exact BK232.out⟩
      have n2_ : Aside0 ((((w26.setCell ⟨gb249, 0, none⟩ (.int .i64 t245)).setCell ⟨gb249, 1, none⟩ (.int .i64 t246)).setCell ⟨gb249, 2, none⟩ (.int .i64 t247)).heap[gb238]? = some (.cells #[.int .i64 t234, .int .i64 t235, .int .i64 t236] 28 (0, 0))) := ⟨by (with_reducible repeat (first | refine blk_drewN ?_ _ | refine blk_drew ?_ | refine blk_alloc ?_ _ | refine blk_far ?_ NB238_249.out _)); exact BK238.out⟩
      have n3_ : Aside0 ((((w26.setCell ⟨gb249, 0, none⟩ (.int .i64 t245)).setCell ⟨gb249, 1, none⟩ (.int .i64 t246)).setCell ⟨gb249, 2, none⟩ (.int .i64 t247)).heap[gb249]? = some (.cells #[.int .i64 t245, .int .i64 t246, .int .i64 t247] 33 (0, 0))) := ⟨by (with_reducible repeat (first | refine blk_drewN ?_ _ | refine blk_drew ?_ | refine blk_alloc ?_ _)); refine blk_put (cs := #[.int .i64 t245, .int .i64 t246, .int .i64 0]) ?_ 2 _ rfl; (with_reducible repeat (first | refine blk_drewN ?_ _ | refine blk_drew ?_ | refine blk_alloc ?_ _)); refine blk_put (cs := #[.int .i64 t245, .int .i64 0, .int .i64 0]) ?_ 1 _ rfl; (with_reducible repeat (first | refine blk_drewN ?_ _ | refine blk_drew ?_ | refine blk_alloc ?_ _)); refine blk_put (cs := #[.int .i64 0, .int .i64 0, .int .i64 0]) ?_ 0 _ rfl; (with_reducible repeat (first | refine blk_drewN ?_ _ | refine blk_drew ?_ | refine blk_alloc ?_ _)); exact BK249.out⟩
      have n4_ : Aside0 (Below w.heap.size w (((w26.setCell ⟨gb249, 0, none⟩ (.int .i64 t245)).setCell ⟨gb249, 1, none⟩ (.int .i64 t246)).setCell ⟨gb249, 2, none⟩ (.int .i64 t247))) := ⟨by repeat (first | (with_reducible first | exact HB.out | apply below_alloc | apply pw_below_drewN | apply below_drew1 | refine below_set ?_ GE231.out | refine below_set ?_ GE232.out | refine below_set ?_ GE238.out | refine below_set ?_ GE249.out) | exact HB.out)⟩
      (try clear BK231)
      (try clear BK232)
      (try clear BK238)
      (try clear BK249)
      (try clear HB)
      generalize (((w26.setCell ⟨gb249, 0, none⟩ (.int .i64 t245)).setCell ⟨gb249, 1, none⟩ (.int .i64 t246)).setCell ⟨gb249, 2, none⟩ (.int .i64 t247)) = w47 at n0_ n1_ n2_ n3_ n4_ ⊢
      have BK231 := n0_
      have BK232 := n1_
      have BK238 := n2_
      have BK249 := n3_
      have HB := n4_
      clear n0_ n1_ n2_ n3_ n4_
      (try (rw [drewN_self w47]; generalize hq_ : World.drewN w47 _ = w47; have n0_ : Aside0 (w47.heap[gb231]? = some (.cells #[.int .i64 a0_0, .int .i64 a0_1, .int .i64 a0_2, .int .i64 a0_3, .int .i64 a0_4] 23 (0, 0))) := ⟨by rw [← hq_]; exact (by (with_reducible repeat (first | refine blk_drewN ?_ _ | refine blk_drew ?_ | refine blk_alloc ?_ _)); exact BK231.out)⟩; have n1_ : Aside0 (w47.heap[gb232]? = some (.cells #[.int .i64 a2_0, .int .i64 a2_1, .bool a2_2, .int .i64 a2_3, .int .i64 a2_4, .int .i64 a2_5] 25 (0, 0))) := ⟨by rw [← hq_]; exact (by (with_reducible repeat (first | refine blk_drewN ?_ _ | refine blk_drew ?_ | refine blk_alloc ?_ _)); exact BK232.out)⟩; have n2_ : Aside0 (w47.heap[gb238]? = some (.cells #[.int .i64 t234, .int .i64 t235, .int .i64 t236] 28 (0, 0))) := ⟨by rw [← hq_]; exact (by (with_reducible repeat (first | refine blk_drewN ?_ _ | refine blk_drew ?_ | refine blk_alloc ?_ _)); exact BK238.out)⟩; have n3_ : Aside0 (w47.heap[gb249]? = some (.cells #[.int .i64 t245, .int .i64 t246, .int .i64 t247] 33 (0, 0))) := ⟨by rw [← hq_]; exact (by (with_reducible repeat (first | refine blk_drewN ?_ _ | refine blk_drew ?_ | refine blk_alloc ?_ _)); exact BK249.out)⟩; have n4_ : Aside0 (Below w.heap.size w w47) := ⟨by rw [← hq_]; exact (by repeat (first | (with_reducible first | exact HB.out | apply below_alloc | apply pw_below_drewN | apply below_drew1 | refine below_set ?_ GE231.out | refine below_set ?_ GE232.out | refine below_set ?_ GE238.out | refine below_set ?_ GE249.out) | exact HB.out))⟩; clear BK231 BK232 BK238 BK249 HB hq_; have BK231 := n0_; have BK232 := n1_; have BK238 := n2_; have BK249 := n3_; have HB := n4_; clear n0_ n1_ n2_ n3_ n4_))
      have n0_ := Aside0.mk (blk_drew BK231.out)
      have n1_ := Aside0.mk (blk_drew BK232.out)
      have n2_ := Aside0.mk (blk_drew BK238.out)
      have n3_ := Aside0.mk (blk_drew BK249.out)
      have n4_ := Aside0.mk (below_drew1 HB.out)
      clear BK231
      clear BK232
      clear BK238
      clear BK249
      clear HB
      have BK231 := n0_
      have BK232 := n1_
      have BK238 := n2_
      have BK249 := n3_
      have HB := n4_
      clear n0_ n1_ n2_ n3_ n4_
      have CA30 := fun W hG_ => pledgesee_Is.calls t237 t248 true W hG_ A30.out
      try simp only [errW_none, errW_some] at CA30
      refine start_ (n := 38) (S := fun w' => w'.cell? ⟨gb238, 0, none⟩ = some (.int .i64 t234) ∧ w'.cell? ⟨gb238, 1, none⟩ = some (.int .i64 t235) ∧ w'.cell? ⟨gb238, 2, none⟩ = some (.int .i64 t236) ∧ w'.cell? ⟨gb249, 0, none⟩ = some (.int .i64 t245) ∧ w'.cell? ⟨gb249, 1, none⟩ = some (.int .i64 t246) ∧ w'.cell? ⟨gb249, 2, none⟩ = some (.int .i64 t247)) (ds := []) z80ad_m17 (by kernel_rfl) rfl rfl ⟨(blk_cell BK238.out 0).trans rfl, (blk_cell BK238.out 1).trans rfl, (blk_cell BK238.out 2).trans rfl, (blk_cell BK249.out 0).trans rfl, (blk_cell BK249.out 1).trans rfl, (blk_cell BK249.out 2).trans rfl⟩ (fun hHeld => ?_); refine with_tabW pledgelaw15_ValueSays.tab6 pledgelaw15_ValueSays.bits6 (fun HT_ HW_ => ?_)
      generalize w47.drew = w48 at BK231 BK232 BK238 BK249 HB hHeld ⊢
      refine z80ad_u 0 30 z80ad_m18 HT_ (v := ?_) (a' := ?_) rfl rfl (by kernel_rfl) (fun _ _ _ h => h) (Or.inl ⟨by rfl, ?_⟩) ?_ ?_
      rotate_left
      · intro w'; go_simp; with_reducible rfl
      rotate_left
      · simp only [Act.put, z80ad_q1, z80ad_q2, z80ad_q3, i64_w, i32_w]; rfl
      refine z80ad_u 1 31 z80ad_m19 HT_ (v := ?_) (a' := ?_) rfl rfl (by kernel_rfl) (fun _ _ _ h => h) (Or.inl ⟨by rfl, ?_⟩) ?_ ?_
      rotate_left
      · intro w'; go_simp; with_reducible rfl
      rotate_left
      · simp only [Act.put, z80ad_q1, z80ad_q2, z80ad_q3, i64_w, i32_w]; rfl
      refine z80ad_u 2 32 z80ad_m20 HT_ (v := ?_) (a' := ?_) rfl rfl (by kernel_rfl) (fun _ _ _ h => h) (Or.inl ⟨by rfl, ?_⟩) ?_ ?_
      rotate_left
      · intro w'; go_simp; with_reducible rfl
      rotate_left
      · simp only [Act.put, z80ad_q1, z80ad_q2, z80ad_q3, i64_w, i32_w]; rfl
      refine z80ad_u 3 33 z80ad_m21 HT_ (v := ?_) (a' := ?_) rfl rfl (by kernel_rfl) (fun _ _ _ h => h) (Or.inl ⟨by rfl, ?_⟩) ?_ ?_
      rotate_left
      · intro w'; go_simp; with_reducible rfl
      rotate_left
      · simp only [Act.put, z80ad_q1, z80ad_q2, z80ad_q3, i64_w, i32_w]; rfl
      refine one_ (i := 4) (N := some 34) z80ad_m22 rfl rfl (one_of HT_.out (by kernel_rfl)) (by decide) (fun K hK => ?_)
      refine goes_ Tryd.func11 (by kernel_rfl) rfl #[errW t237, .int .i64 t248] (by rfl) rfl rfl (by (try simp only [List.map_toArray, List.map_cons, List.map_nil]); first | done | rfl | (simp only [List.length_drop, List.length_take]; rfl)) ?_
      with_reducible refine (CA30 _ ?side1).mono ?_
      (case side1 => exact GlobOK.below HG.out (by repeat (first | (with_reducible first | exact HB.out | apply below_alloc | apply pw_below_drewN | apply below_drew1 | refine below_set ?_ GE231.out | refine below_set ?_ GE232.out | refine below_set ?_ GE238.out | refine below_set ?_ GE249.out) | exact HB.out)))
      rintro e w49 ⟨rfl, hb⟩
      refine ⟨_, rfl, ?_⟩
      have n0_ := Aside0.mk (blk_below (g := gb231) (o := .cells #[.int .i64 a0_0, .int .i64 a0_1, .int .i64 a0_2, .int .i64 a0_3, .int .i64 a0_4] 23 (0, 0)) (by (with_reducible repeat (first | refine blk_drewN ?_ _ | refine blk_drew ?_ | refine blk_alloc ?_ _)); exact BK231.out) hb)
      have n1_ := Aside0.mk (blk_below (g := gb232) (o := .cells #[.int .i64 a2_0, .int .i64 a2_1, .bool a2_2, .int .i64 a2_3, .int .i64 a2_4, .int .i64 a2_5] 25 (0, 0)) (by (with_reducible repeat (first | refine blk_drewN ?_ _ | refine blk_drew ?_ | refine blk_alloc ?_ _)); exact BK232.out) hb)
      have n2_ := Aside0.mk (blk_below (g := gb238) (o := .cells #[.int .i64 t234, .int .i64 t235, .int .i64 t236] 28 (0, 0)) (by (with_reducible repeat (first | refine blk_drewN ?_ _ | refine blk_drew ?_ | refine blk_alloc ?_ _)); exact BK238.out) hb)
      have n3_ := Aside0.mk (blk_below (g := gb249) (o := .cells #[.int .i64 t245, .int .i64 t246, .int .i64 t247] 33 (0, 0)) (by (with_reducible repeat (first | refine blk_drewN ?_ _ | refine blk_drew ?_ | refine blk_alloc ?_ _)); exact BK249.out) hb)
      have n4_ := Aside0.mk (below_step (by repeat (first | (with_reducible first | exact HB.out | apply below_alloc | apply pw_below_drewN | apply below_drew1 | refine below_set ?_ GE231.out | refine below_set ?_ GE232.out | refine below_set ?_ GE238.out | refine below_set ?_ GE249.out) | exact HB.out)) hb)
      clear BK231
      clear BK232
      clear BK238
      clear BK249
      clear HB
      have BK231 := n0_
      have BK232 := n1_
      have BK238 := n2_
      have BK249 := n3_
      have HB := n4_
      clear n0_ n1_ n2_ n3_ n4_
      (try clear hb)
      (try clear hb2)
      (try clear hk)
      (try clear hi)
      refine hK.out _ _ ⟨(blk_cell BK238.out 0).trans rfl, (blk_cell BK238.out 1).trans rfl, (blk_cell BK238.out 2).trans rfl, (blk_cell BK249.out 0).trans rfl, (blk_cell BK249.out 1).trans rfl, (blk_cell BK249.out 2).trans rfl⟩ (fun hHeld => ?_)
      clear hK K
      refine norm_ (a' := ?_) ?_ ?_
      rotate_left
      ·
       show Act.put _ (some 34) _ = _
       simp only [Act.put, z80ad_q1, z80ad_q2, z80ad_q3, i64_w, i32_w]
       rfl
      refine z80ad_u 5 35 z80ad_m23 HT_ (v := ?_) (a' := ?_) rfl rfl (by kernel_rfl) (fun _ _ _ h => h) (Or.inl ⟨by rfl, ?_⟩) ?_ ?_
      rotate_left
      · intro w'; go_simp; with_reducible rfl
      rotate_left
      · simp only [Act.put, z80ad_q1, z80ad_q2, z80ad_q3, i64_w, i32_w]; rfl
      refine z80ad_u 6 36 z80ad_m24 HT_ (v := ?_) (a' := ?_) rfl rfl (by kernel_rfl) (fun _ _ _ h => h) (Or.inl ⟨by rfl, ?_⟩) ?_ ?_
      rotate_left
      · intro w'; go_simp; with_reducible rfl
      rotate_left
      · simp only [Act.put, z80ad_q1, z80ad_q2, z80ad_q3, i64_w, i32_w]; rfl
      refine z80ad_u 7 37 z80ad_m25 HT_ (v := ?_) (a' := ?_) rfl rfl (by kernel_rfl) (fun _ _ _ h => h) (Or.inl ⟨by rfl, ?_⟩) ?_ ?_
      rotate_left
      · intro w'; go_simp; with_reducible rfl
      rotate_left
      · simp only [Act.put, z80ad_q1, z80ad_q2, z80ad_q3, i64_w, i32_w]; rfl
      refine z80ad_u 9 39 z80ad_m26 HT_ (v := ?_) (a' := ?_) rfl rfl (by kernel_rfl) (fun _ _ _ h => h) (Or.inl ⟨by rfl, ?_⟩) ?_ ?_
      rotate_left
      · intro w'; go_simp; with_reducible rfl
      rotate_left
      · simp only [Act.put, z80ad_q1, z80ad_q2, z80ad_q3, i64_w, i32_w]; rfl
      refine take_ (i := 8) (N := some 38) (v := ?_) (a' := ?_) z80ad_m27 rfl rfl (take_ofW HT_.out HW_.out (by kernel_rfl)) (fun _ _ _ h => h) (Or.inl ⟨by rfl, ?_⟩) hHeld ?_ ?_
      rotate_left
      ·
       rintro w' ⟨s0, s1, s2, s3, s4, s5⟩
       go_simp
       with_reducible rfl
      rotate_left
      · simp only [Act.put, z80ad_q1, z80ad_q2, z80ad_q3, i64_w, i32_w]; rfl
      refine take_ (i := 10) (N := some 40) (v := ?_) (a' := ?_) z80ad_m28 rfl rfl (take_ofW HT_.out HW_.out (by kernel_rfl)) (fun _ _ _ h => h) (Or.inl ⟨by rfl, ?_⟩) hHeld ?_ ?_
      rotate_left
      ·
       rintro w' ⟨s0, s1, s2, s3, s4, s5⟩
       go_simp
       with_reducible rfl
      rotate_left
      · simp only [Act.put, z80ad_q1, z80ad_q2, z80ad_q3, i64_w, i32_w]; rfl
      refine z80ad_u 11 41 z80ad_m29 HT_ (v := ?_) (a' := ?_) rfl rfl (by kernel_rfl) (fun _ _ _ h => h) (Or.inl ⟨by rfl, ?_⟩) ?_ ?_
      rotate_left
      · intro w'; go_simp; with_reducible rfl
      rotate_left
      · simp only [Act.put, z80ad_q1, z80ad_q2, z80ad_q3, i64_w, i32_w]; rfl
      refine z80ad_u 12 42 z80ad_m30 HT_ (v := ?_) (a' := ?_) rfl rfl (by kernel_rfl) (fun _ _ _ h => h) (Or.inl ⟨by rfl, ?_⟩) ?_ ?_
      rotate_left
      · intro w'; go_simp; with_reducible rfl
      rotate_left
      · simp only [Act.put, z80ad_q1, z80ad_q2, z80ad_q3, i64_w, i32_w]; rfl
      refine z80ad_u 13 43 z80ad_m31 HT_ (v := ?_) (a' := ?_) rfl rfl (by kernel_rfl) (fun _ _ _ h => h) (Or.inl ⟨by rfl, ?_⟩) ?_ ?_
      rotate_left
      · intro w'; go_simp; with_reducible rfl
      rotate_left
      · simp only [Act.put, z80ad_q1, z80ad_q2, z80ad_q3, i64_w, i32_w]; rfl
      refine z80ad_u 14 44 z80ad_m32 HT_ (v := ?_) (a' := ?_) rfl rfl (by kernel_rfl) (fun _ _ _ h => h) (Or.inl ⟨by rfl, ?_⟩) ?_ ?_
      rotate_left
      · intro w'; go_simp; with_reducible rfl
      rotate_left
      · simp only [Act.put, z80ad_q1, z80ad_q2, z80ad_q3, i64_w, i32_w]; rfl
      refine z80ad_u 16 46 z80ad_m33 HT_ (v := ?_) (a' := ?_) rfl rfl (by kernel_rfl) (fun _ _ _ h => h) (Or.inl ⟨by rfl, ?_⟩) ?_ ?_
      rotate_left
      · intro w'; go_simp; with_reducible rfl
      rotate_left
      · simp only [Act.put, z80ad_q1, z80ad_q2, z80ad_q3, i64_w, i32_w]; rfl
      refine take_ (i := 15) (N := some 45) (v := ?_) (a' := ?_) z80ad_m34 rfl rfl (take_ofW HT_.out HW_.out (by kernel_rfl)) (fun _ _ _ h => h) (Or.inl ⟨by rfl, ?_⟩) hHeld ?_ ?_
      rotate_left
      ·
       rintro w' ⟨s0, s1, s2, s3, s4, s5⟩
       go_simp
       with_reducible rfl
      rotate_left
      · simp only [Act.put, z80ad_q1, z80ad_q2, z80ad_q3, i64_w, i32_w]; rfl
      refine take_ (i := 17) (N := some 47) (v := ?_) (a' := ?_) z80ad_m35 rfl rfl (take_ofW HT_.out HW_.out (by kernel_rfl)) (fun _ _ _ h => h) (Or.inl ⟨by rfl, ?_⟩) hHeld ?_ ?_
      rotate_left
      ·
       rintro w' ⟨s0, s1, s2, s3, s4, s5⟩
       go_simp
       with_reducible rfl
      rotate_left
      · simp only [Act.put, z80ad_q1, z80ad_q2, z80ad_q3, i64_w, i32_w]; rfl
      refine z80ad_u 18 48 z80ad_m36 HT_ (v := ?_) (a' := ?_) rfl rfl (by kernel_rfl) (fun _ _ _ h => h) (Or.inl ⟨by rfl, ?_⟩) ?_ ?_
      rotate_left
      · intro w'; go_simp; with_reducible rfl
      rotate_left
      · simp only [Act.put, z80ad_q1, z80ad_q2, z80ad_q3, i64_w, i32_w]; rfl
      refine z80ad_u 19 49 z80ad_m37 HT_ (v := ?_) (a' := ?_) rfl rfl (by kernel_rfl) (fun _ _ _ h => h) (Or.inl ⟨by rfl, ?_⟩) ?_ ?_
      rotate_left
      · intro w'; go_simp; with_reducible rfl
      rotate_left
      · simp only [Act.put, z80ad_q1, z80ad_q2, z80ad_q3, i64_w, i32_w]; rfl
      refine z80ad_u 20 50 z80ad_m38 HT_ (v := ?_) (a' := ?_) rfl rfl (by kernel_rfl) (fun _ _ _ h => h) (Or.inl ⟨by rfl, ?_⟩) ?_ ?_
      rotate_left
      · intro w'; go_simp; with_reducible rfl
      rotate_left
      · simp only [Act.put, z80ad_q1, z80ad_q2, z80ad_q3, i64_w, i32_w]; rfl
      refine z80ad_u 21 51 z80ad_m39 HT_ (v := undef) (a' := ?_) rfl rfl (by kernel_rfl) (fun _ _ _ h => h) (Or.inr ⟨by rfl, rfl⟩) ?_ ?_
      rotate_left
      · simp only [Act.put, z80ad_q1, z80ad_q2, z80ad_q3, i64_w, i32_w]; rfl
      refine z80ad_u 22 52 z80ad_m58 HT_ (v := undef) (a' := ?_) rfl rfl (by kernel_rfl) (fun _ _ _ h => h) (Or.inr ⟨by rfl, rfl⟩) ?_ ?_
      rotate_left
      · simp only [Act.put, z80ad_q1, z80ad_q2, z80ad_q3, i64_w, i32_w]; rfl
      refine z80ad_u 23 53 z80ad_m41 HT_ (v := undef) (a' := ?_) rfl rfl (by kernel_rfl) (fun _ _ _ h => h) (Or.inr ⟨by rfl, rfl⟩) ?_ ?_
      rotate_left
      · simp only [Act.put, z80ad_q1, z80ad_q2, z80ad_q3, i64_w, i32_w]; rfl
      refine z80ad_u 24 54 z80ad_m42 HT_ (v := undef) (a' := ?_) rfl rfl (by kernel_rfl) (fun _ _ _ h => h) (Or.inr ⟨by rfl, rfl⟩) ?_ ?_
      rotate_left
      · simp only [Act.put, z80ad_q1, z80ad_q2, z80ad_q3, i64_w, i32_w]; rfl
      refine z80ad_u 25 55 z80ad_m43 HT_ (v := undef) (a' := ?_) rfl rfl (by kernel_rfl) (fun _ _ _ h => h) (Or.inr ⟨by rfl, rfl⟩) ?_ ?_
      rotate_left
      · simp only [Act.put, z80ad_q1, z80ad_q2, z80ad_q3, i64_w, i32_w]; rfl
      refine z80ad_u 26 56 z80ad_m44 HT_ (v := ?_) (a' := ?_) rfl rfl (by kernel_rfl) (fun _ _ _ h => h) (Or.inl ⟨by rfl, ?_⟩) ?_ ?_
      rotate_left
      · intro w'; go_simp; with_reducible rfl
      rotate_left
      · simp only [Act.put, z80ad_q1, z80ad_q2, z80ad_q3, i64_w, i32_w]; rfl
      refine z80ad_u 27 57 z80ad_m45 HT_ (v := ?_) (a' := ?_) rfl rfl (by kernel_rfl) (fun _ _ _ h => h) (Or.inl ⟨by rfl, ?_⟩) ?_ ?_
      rotate_left
      · intro w'; go_simp; with_reducible rfl
      rotate_left
      · simp only [Act.put, z80ad_q1, z80ad_q2, z80ad_q3, i64_w, i32_w]; rfl
      refine z80ad_u 28 58 z80ad_m46 HT_ (v := undef) (a' := ?_) rfl rfl (by kernel_rfl) (fun _ _ _ h => h) (Or.inr ⟨by rfl, rfl⟩) ?_ ?_
      rotate_left
      · simp only [Act.put, z80ad_q1, z80ad_q2, z80ad_q3, i64_w, i32_w]; rfl
      refine z80ad_u 29 59 z80ad_m47 HT_ (v := undef) (a' := ?_) rfl rfl (by kernel_rfl) (fun _ _ _ h => h) (Or.inr ⟨by rfl, rfl⟩) ?_ ?_
      rotate_left
      · simp only [Act.put, z80ad_q1, z80ad_q2, z80ad_q3, i64_w, i32_w]; rfl
      refine z80ad_u 30 60 z80ad_m56 HT_ (v := undef) (a' := ?_) rfl rfl (by kernel_rfl) (fun _ _ _ h => h) (Or.inr ⟨by rfl, rfl⟩) ?_ ?_
      rotate_left
      · simp only [Act.put, z80ad_q1, z80ad_q2, z80ad_q3, i64_w, i32_w]; rfl
      refine z80ad_u 31 61 z80ad_m57 HT_ (v := undef) (a' := ?_) rfl rfl (by kernel_rfl) (fun _ _ _ h => h) (Or.inr ⟨by rfl, rfl⟩) ?_ ?_
      rotate_left
      · simp only [Act.put, z80ad_q1, z80ad_q2, z80ad_q3, i64_w, i32_w]; rfl
      refine z80ad_u 32 62 z80ad_m50 HT_ (v := undef) (a' := ?_) rfl rfl (by kernel_rfl) (fun _ _ _ h => h) (Or.inr ⟨by rfl, rfl⟩) ?_ ?_
      rotate_left
      · simp only [Act.put, z80ad_q1, z80ad_q2, z80ad_q3, i64_w, i32_w]; rfl
      refine z80ad_u 33 63 z80ad_m51 HT_ (v := undef) (a' := ?_) rfl rfl (by kernel_rfl) (fun _ _ _ h => h) (Or.inr ⟨by rfl, rfl⟩) ?_ ?_
      rotate_left
      · simp only [Act.put, z80ad_q1, z80ad_q2, z80ad_q3, i64_w, i32_w]; rfl
      refine z80ad_u 34 64 z80ad_m52 HT_ (v := undef) (a' := ?_) rfl rfl (by kernel_rfl) (fun _ _ _ h => h) (Or.inr ⟨by rfl, rfl⟩) ?_ ?_
      rotate_left
      · simp only [Act.put, z80ad_q1, z80ad_q2, z80ad_q3, i64_w, i32_w]; rfl
      refine z80ad_u 35 65 z80ad_m53 HT_ (v := undef) (a' := ?_) rfl rfl (by kernel_rfl) (fun _ _ _ h => h) (Or.inr ⟨by rfl, rfl⟩) ?_ ?_
      rotate_left
      · simp only [Act.put, z80ad_q1, z80ad_q2, z80ad_q3, i64_w, i32_w]; rfl
      refine z80ad_u 36 66 z80ad_m54 HT_ (v := ?_) (a' := ?_) rfl rfl (by kernel_rfl) (fun _ _ _ h => h) (Or.inl ⟨by rfl, ?_⟩) ?_ ?_
      rotate_left
      · intro w'; go_simp; with_reducible rfl
      rotate_left
      · simp only [Act.put, z80ad_q1, z80ad_q2, z80ad_q3, i64_w, i32_w]; rfl
      refine z80ad_u 37 6 z80ad_m55 HT_ (v := ?_) (a' := ?_) rfl rfl (by kernel_rfl) (fun _ _ _ h => h) (Or.inl ⟨by rfl, ?_⟩) ?_ ?_
      rotate_left
      · intro w'; go_simp; with_reducible rfl
      rotate_left
      · simp only [Act.put, z80ad_q1, z80ad_q2, z80ad_q3, i64_w, i32_w]; rfl
      refine done_ (done_of HT_.out (by kernel_rfl)) ?_
      try go_wp2
      go_meet
      case rel => exact ⟨_, (false), (by first | rfl | (simp; done) | (simp [*]; done)), H', ⟨by first | omega | exact Nat.le_refl _⟩, ⟨by (with_reducible repeat (first | refine blk_drewN ?_ _ | refine blk_drew ?_ | refine blk_alloc ?_ _)); exact BK231.out⟩, ⟨by (with_reducible repeat (first | refine blk_drewN ?_ _ | refine blk_drew ?_ | refine blk_alloc ?_ _)); exact BK232.out⟩, ⟨by (with_reducible repeat (first | refine blk_drewN ?_ _ | refine blk_drew ?_ | refine blk_alloc ?_ _)); exact BK238.out⟩, ⟨by (with_reducible repeat (first | refine blk_drewN ?_ _ | refine blk_drew ?_ | refine blk_alloc ?_ _)); exact BK249.out⟩, ⟨by repeat (first | (with_reducible first | exact HB.out | apply below_alloc | apply pw_below_drewN | apply below_drew1 | refine below_set ?_ GE231.out | refine below_set ?_ GE232.out | refine below_set ?_ GE238.out | refine below_set ?_ GE249.out) | exact HB.out)⟩⟩
    ·
     rw [if_neg c32] at H
     have c32b0 : (t234 == t245) = false := beq_eq_false_iff_ne.mpr c32
     have c32b1 : (t234 != t245) = true := bne_iff_ne.mpr c32
     (first | rw [c32b0] | (simp only [i64_w, i32_w]; rw [c32b0]) | skip)
     have H' := Aside0.mk H
     clear H
     try go_wp2
     have n0_ : Aside0 ((((w26.setCell ⟨gb249, 0, none⟩ (.int .i64 t245)).setCell ⟨gb249, 1, none⟩ (.int .i64 t246)).setCell ⟨gb249, 2, none⟩ (.int .i64 t247)).heap[gb231]? = some (.cells #[.int .i64 a0_0, .int .i64 a0_1, .int .i64 a0_2, .int .i64 a0_3, .int .i64 a0_4] 23 (0, 0))) := ⟨by (with_reducible repeat (first | refine blk_drewN ?_ _ | refine blk_drew ?_ | refine blk_alloc ?_ _ | refine blk_far ?_ NB231_249.out _)); exact BK231.out⟩
     have n1_ : Aside0 ((((w26.setCell ⟨gb249, 0, none⟩ (.int .i64 t245)).setCell ⟨gb249, 1, none⟩ (.int .i64 t246)).setCell ⟨gb249, 2, none⟩ (.int .i64 t247)).heap[gb232]? = some (.cells #[.int .i64 a2_0, .int .i64 a2_1, .bool a2_2, .int .i64 a2_3, .int .i64 a2_4, .int .i64 a2_5] 25 (0, 0))) := ⟨by (with_reducible repeat (first | refine blk_drewN ?_ _ | refine blk_drew ?_ | refine blk_alloc ?_ _ | refine blk_far ?_ NB232_249.out _)); exact BK232.out⟩
     have n2_ : Aside0 ((((w26.setCell ⟨gb249, 0, none⟩ (.int .i64 t245)).setCell ⟨gb249, 1, none⟩ (.int .i64 t246)).setCell ⟨gb249, 2, none⟩ (.int .i64 t247)).heap[gb238]? = some (.cells #[.int .i64 t234, .int .i64 t235, .int .i64 t236] 28 (0, 0))) := ⟨by (with_reducible repeat (first | refine blk_drewN ?_ _ | refine blk_drew ?_ | refine blk_alloc ?_ _ | refine blk_far ?_ NB238_249.out _)); exact BK238.out⟩
     have n3_ : Aside0 ((((w26.setCell ⟨gb249, 0, none⟩ (.int .i64 t245)).setCell ⟨gb249, 1, none⟩ (.int .i64 t246)).setCell ⟨gb249, 2, none⟩ (.int .i64 t247)).heap[gb249]? = some (.cells #[.int .i64 t245, .int .i64 t246, .int .i64 t247] 33 (0, 0))) := ⟨by (with_reducible repeat (first | refine blk_drewN ?_ _ | refine blk_drew ?_ | refine blk_alloc ?_ _)); refine blk_put (cs := #[.int .i64 t245, .int .i64 t246, .int .i64 0]) ?_ 2 _ rfl; (with_reducible repeat (first | refine blk_drewN ?_ _ | refine blk_drew ?_ | refine blk_alloc ?_ _)); refine blk_put (cs := #[.int .i64 t245, .int .i64 0, .int .i64 0]) ?_ 1 _ rfl; (with_reducible repeat (first | refine blk_drewN ?_ _ | refine blk_drew ?_ | refine blk_alloc ?_ _)); refine blk_put (cs := #[.int .i64 0, .int .i64 0, .int .i64 0]) ?_ 0 _ rfl; (with_reducible repeat (first | refine blk_drewN ?_ _ | refine blk_drew ?_ | refine blk_alloc ?_ _)); exact BK249.out⟩
     have n4_ : Aside0 (Below w.heap.size w (((w26.setCell ⟨gb249, 0, none⟩ (.int .i64 t245)).setCell ⟨gb249, 1, none⟩ (.int .i64 t246)).setCell ⟨gb249, 2, none⟩ (.int .i64 t247))) := ⟨by repeat (first | (with_reducible first | exact HB.out | apply below_alloc | apply pw_below_drewN | apply below_drew1 | refine below_set ?_ GE231.out | refine below_set ?_ GE232.out | refine below_set ?_ GE238.out | refine below_set ?_ GE249.out) | exact HB.out)⟩
     (try clear BK231)
     (try clear BK232)
     (try clear BK238)
     (try clear BK249)
     (try clear HB)
     generalize (((w26.setCell ⟨gb249, 0, none⟩ (.int .i64 t245)).setCell ⟨gb249, 1, none⟩ (.int .i64 t246)).setCell ⟨gb249, 2, none⟩ (.int .i64 t247)) = w50 at n0_ n1_ n2_ n3_ n4_ ⊢
     have BK231 := n0_
     have BK232 := n1_
     have BK238 := n2_
     have BK249 := n3_
     have HB := n4_
     clear n0_ n1_ n2_ n3_ n4_
     (try (rw [drewN_self w50]; generalize hq_ : World.drewN w50 _ = w50; have n0_ : Aside0 (w50.heap[gb231]? = some (.cells #[.int .i64 a0_0, .int .i64 a0_1, .int .i64 a0_2, .int .i64 a0_3, .int .i64 a0_4] 23 (0, 0))) := ⟨by rw [← hq_]; exact (by (with_reducible repeat (first | refine blk_drewN ?_ _ | refine blk_drew ?_ | refine blk_alloc ?_ _)); exact BK231.out)⟩; have n1_ : Aside0 (w50.heap[gb232]? = some (.cells #[.int .i64 a2_0, .int .i64 a2_1, .bool a2_2, .int .i64 a2_3, .int .i64 a2_4, .int .i64 a2_5] 25 (0, 0))) := ⟨by rw [← hq_]; exact (by (with_reducible repeat (first | refine blk_drewN ?_ _ | refine blk_drew ?_ | refine blk_alloc ?_ _)); exact BK232.out)⟩; have n2_ : Aside0 (w50.heap[gb238]? = some (.cells #[.int .i64 t234, .int .i64 t235, .int .i64 t236] 28 (0, 0))) := ⟨by rw [← hq_]; exact (by (with_reducible repeat (first | refine blk_drewN ?_ _ | refine blk_drew ?_ | refine blk_alloc ?_ _)); exact BK238.out)⟩; have n3_ : Aside0 (w50.heap[gb249]? = some (.cells #[.int .i64 t245, .int .i64 t246, .int .i64 t247] 33 (0, 0))) := ⟨by rw [← hq_]; exact (by (with_reducible repeat (first | refine blk_drewN ?_ _ | refine blk_drew ?_ | refine blk_alloc ?_ _)); exact BK249.out)⟩; have n4_ : Aside0 (Below w.heap.size w w50) := ⟨by rw [← hq_]; exact (by repeat (first | (with_reducible first | exact HB.out | apply below_alloc | apply pw_below_drewN | apply below_drew1 | refine below_set ?_ GE231.out | refine below_set ?_ GE232.out | refine below_set ?_ GE238.out | refine below_set ?_ GE249.out) | exact HB.out))⟩; clear BK231 BK232 BK238 BK249 HB hq_; have BK231 := n0_; have BK232 := n1_; have BK238 := n2_; have BK249 := n3_; have HB := n4_; clear n0_ n1_ n2_ n3_ n4_))
     have n0_ := Aside0.mk (blk_drew BK231.out)
     have n1_ := Aside0.mk (blk_drew BK232.out)
     have n2_ := Aside0.mk (blk_drew BK238.out)
     have n3_ := Aside0.mk (blk_drew BK249.out)
     have n4_ := Aside0.mk (below_drew1 HB.out)
     clear BK231
     clear BK232
     clear BK238
     clear BK249
     clear HB
     have BK231 := n0_
     have BK232 := n1_
     have BK238 := n2_
     have BK249 := n3_
     have HB := n4_
     clear n0_ n1_ n2_ n3_ n4_
     have CA30 := fun W hG_ => pledgesee_Is.calls t237 t248 true W hG_ A30.out
     try simp only [errW_none, errW_some] at CA30
     refine start_ (n := 38) (S := fun w' => w'.cell? ⟨gb238, 0, none⟩ = some (.int .i64 t234) ∧ w'.cell? ⟨gb238, 1, none⟩ = some (.int .i64 t235) ∧ w'.cell? ⟨gb238, 2, none⟩ = some (.int .i64 t236) ∧ w'.cell? ⟨gb249, 0, none⟩ = some (.int .i64 t245) ∧ w'.cell? ⟨gb249, 1, none⟩ = some (.int .i64 t246) ∧ w'.cell? ⟨gb249, 2, none⟩ = some (.int .i64 t247)) (ds := []) z80ad_m17 (by kernel_rfl) rfl rfl ⟨(blk_cell BK238.out 0).trans rfl, (blk_cell BK238.out 1).trans rfl, (blk_cell BK238.out 2).trans rfl, (blk_cell BK249.out 0).trans rfl, (blk_cell BK249.out 1).trans rfl, (blk_cell BK249.out 2).trans rfl⟩ (fun hHeld => ?_); refine with_tabW pledgelaw15_ValueSays.tab6 pledgelaw15_ValueSays.bits6 (fun HT_ HW_ => ?_)
     generalize w50.drew = w51 at BK231 BK232 BK238 BK249 HB hHeld ⊢
     refine z80ad_u 0 30 z80ad_m18 HT_ (v := ?_) (a' := ?_) rfl rfl (by kernel_rfl) (fun _ _ _ h => h) (Or.inl ⟨by rfl, ?_⟩) ?_ ?_
     rotate_left
     · intro w'; go_simp; with_reducible rfl
     rotate_left
     · simp only [Act.put, z80ad_q1, z80ad_q2, z80ad_q3, i64_w, i32_w]; rfl
     refine z80ad_u 1 31 z80ad_m19 HT_ (v := ?_) (a' := ?_) rfl rfl (by kernel_rfl) (fun _ _ _ h => h) (Or.inl ⟨by rfl, ?_⟩) ?_ ?_
     rotate_left
     · intro w'; go_simp; with_reducible rfl
     rotate_left
     · simp only [Act.put, z80ad_q1, z80ad_q2, z80ad_q3, i64_w, i32_w]; rfl
     refine z80ad_u 2 32 z80ad_m20 HT_ (v := ?_) (a' := ?_) rfl rfl (by kernel_rfl) (fun _ _ _ h => h) (Or.inl ⟨by rfl, ?_⟩) ?_ ?_
     rotate_left
     · intro w'; go_simp; with_reducible rfl
     rotate_left
     · simp only [Act.put, z80ad_q1, z80ad_q2, z80ad_q3, i64_w, i32_w]; rfl
     refine z80ad_u 3 33 z80ad_m21 HT_ (v := ?_) (a' := ?_) rfl rfl (by kernel_rfl) (fun _ _ _ h => h) (Or.inl ⟨by rfl, ?_⟩) ?_ ?_
     rotate_left
     · intro w'; go_simp; with_reducible rfl
     rotate_left
     · simp only [Act.put, z80ad_q1, z80ad_q2, z80ad_q3, i64_w, i32_w]; rfl
     refine one_ (i := 4) (N := some 34) z80ad_m22 rfl rfl (one_of HT_.out (by kernel_rfl)) (by decide) (fun K hK => ?_)
     refine goes_ Tryd.func11 (by kernel_rfl) rfl #[errW t237, .int .i64 t248] (by rfl) rfl rfl (by (try simp only [List.map_toArray, List.map_cons, List.map_nil]); first | done | rfl | (simp only [List.length_drop, List.length_take]; rfl)) ?_
     with_reducible refine (CA30 _ ?side1).mono ?_
     (case side1 => exact GlobOK.below HG.out (by repeat (first | (with_reducible first | exact HB.out | apply below_alloc | apply pw_below_drewN | apply below_drew1 | refine below_set ?_ GE231.out | refine below_set ?_ GE232.out | refine below_set ?_ GE238.out | refine below_set ?_ GE249.out) | exact HB.out)))
     rintro e w52 ⟨rfl, hb⟩
     refine ⟨_, rfl, ?_⟩
     have n0_ := Aside0.mk (blk_below (g := gb231) (o := .cells #[.int .i64 a0_0, .int .i64 a0_1, .int .i64 a0_2, .int .i64 a0_3, .int .i64 a0_4] 23 (0, 0)) (by (with_reducible repeat (first | refine blk_drewN ?_ _ | refine blk_drew ?_ | refine blk_alloc ?_ _)); exact BK231.out) hb)
     have n1_ := Aside0.mk (blk_below (g := gb232) (o := .cells #[.int .i64 a2_0, .int .i64 a2_1, .bool a2_2, .int .i64 a2_3, .int .i64 a2_4, .int .i64 a2_5] 25 (0, 0)) (by (with_reducible repeat (first | refine blk_drewN ?_ _ | refine blk_drew ?_ | refine blk_alloc ?_ _)); exact BK232.out) hb)
     have n2_ := Aside0.mk (blk_below (g := gb238) (o := .cells #[.int .i64 t234, .int .i64 t235, .int .i64 t236] 28 (0, 0)) (by (with_reducible repeat (first | refine blk_drewN ?_ _ | refine blk_drew ?_ | refine blk_alloc ?_ _)); exact BK238.out) hb)
     have n3_ := Aside0.mk (blk_below (g := gb249) (o := .cells #[.int .i64 t245, .int .i64 t246, .int .i64 t247] 33 (0, 0)) (by (with_reducible repeat (first | refine blk_drewN ?_ _ | refine blk_drew ?_ | refine blk_alloc ?_ _)); exact BK249.out) hb)
     have n4_ := Aside0.mk (below_step (by repeat (first | (with_reducible first | exact HB.out | apply below_alloc | apply pw_below_drewN | apply below_drew1 | refine below_set ?_ GE231.out | refine below_set ?_ GE232.out | refine below_set ?_ GE238.out | refine below_set ?_ GE249.out) | exact HB.out)) hb)
     clear BK231
     clear BK232
     clear BK238
     clear BK249
     clear HB
     have BK231 := n0_
     have BK232 := n1_
     have BK238 := n2_
     have BK249 := n3_
     have HB := n4_
     clear n0_ n1_ n2_ n3_ n4_
     (try clear hb)
     (try clear hb2)
     (try clear hk)
     (try clear hi)
     refine hK.out _ _ ⟨(blk_cell BK238.out 0).trans rfl, (blk_cell BK238.out 1).trans rfl, (blk_cell BK238.out 2).trans rfl, (blk_cell BK249.out 0).trans rfl, (blk_cell BK249.out 1).trans rfl, (blk_cell BK249.out 2).trans rfl⟩ (fun hHeld => ?_)
     clear hK K
     refine norm_ (a' := ?_) ?_ ?_
     rotate_left
     ·
      show Act.put _ (some 34) _ = _
      simp only [Act.put, z80ad_q1, z80ad_q2, z80ad_q3, i64_w, i32_w]
      rfl
     refine z80ad_u 5 35 z80ad_m23 HT_ (v := ?_) (a' := ?_) rfl rfl (by kernel_rfl) (fun _ _ _ h => h) (Or.inl ⟨by rfl, ?_⟩) ?_ ?_
     rotate_left
     · intro w'; go_simp; with_reducible rfl
     rotate_left
     · simp only [Act.put, z80ad_q1, z80ad_q2, z80ad_q3, i64_w, i32_w]; rfl
     refine z80ad_u 6 36 z80ad_m24 HT_ (v := ?_) (a' := ?_) rfl rfl (by kernel_rfl) (fun _ _ _ h => h) (Or.inl ⟨by rfl, ?_⟩) ?_ ?_
     rotate_left
     · intro w'; go_simp; with_reducible rfl
     rotate_left
     · simp only [Act.put, z80ad_q1, z80ad_q2, z80ad_q3, i64_w, i32_w]; rfl
     refine z80ad_u 7 37 z80ad_m25 HT_ (v := ?_) (a' := ?_) rfl rfl (by kernel_rfl) (fun _ _ _ h => h) (Or.inl ⟨by rfl, ?_⟩) ?_ ?_
     rotate_left
     · intro w'; go_simp; with_reducible rfl
     rotate_left
     · simp only [Act.put, z80ad_q1, z80ad_q2, z80ad_q3, i64_w, i32_w]; rfl
     refine z80ad_u 9 39 z80ad_m26 HT_ (v := ?_) (a' := ?_) rfl rfl (by kernel_rfl) (fun _ _ _ h => h) (Or.inl ⟨by rfl, ?_⟩) ?_ ?_
     rotate_left
     · intro w'; go_simp; with_reducible rfl
     rotate_left
     · simp only [Act.put, z80ad_q1, z80ad_q2, z80ad_q3, i64_w, i32_w]; rfl
     refine take_ (i := 8) (N := some 38) (v := ?_) (a' := ?_) z80ad_m27 rfl rfl (take_ofW HT_.out HW_.out (by kernel_rfl)) (fun _ _ _ h => h) (Or.inl ⟨by rfl, ?_⟩) hHeld ?_ ?_
     rotate_left
     ·
      rintro w' ⟨s0, s1, s2, s3, s4, s5⟩
      go_simp
      with_reducible rfl
     rotate_left
     · simp only [Act.put, z80ad_q1, z80ad_q2, z80ad_q3, i64_w, i32_w]; rfl
     refine take_ (i := 10) (N := some 40) (v := ?_) (a' := ?_) z80ad_m28 rfl rfl (take_ofW HT_.out HW_.out (by kernel_rfl)) (fun _ _ _ h => h) (Or.inl ⟨by rfl, ?_⟩) hHeld ?_ ?_
     rotate_left
     ·
      rintro w' ⟨s0, s1, s2, s3, s4, s5⟩
      go_simp
      with_reducible rfl
     rotate_left
     · simp only [Act.put, z80ad_q1, z80ad_q2, z80ad_q3, i64_w, i32_w]; rfl
     refine z80ad_u 11 41 z80ad_m29 HT_ (v := ?_) (a' := ?_) rfl rfl (by kernel_rfl) (fun _ _ _ h => h) (Or.inl ⟨by rfl, ?_⟩) ?_ ?_
     rotate_left
     · intro w'; go_simp; with_reducible rfl
     rotate_left
     · simp only [Act.put, z80ad_q1, z80ad_q2, z80ad_q3, i64_w, i32_w]; rfl
     refine z80ad_u 12 42 z80ad_m30 HT_ (v := ?_) (a' := ?_) rfl rfl (by kernel_rfl) (fun _ _ _ h => h) (Or.inl ⟨by rfl, ?_⟩) ?_ ?_
     rotate_left
     · intro w'; go_simp; with_reducible rfl
     rotate_left
     · simp only [Act.put, z80ad_q1, z80ad_q2, z80ad_q3, i64_w, i32_w]; rfl
     refine z80ad_u 13 43 z80ad_m31 HT_ (v := ?_) (a' := ?_) rfl rfl (by kernel_rfl) (fun _ _ _ h => h) (Or.inl ⟨by rfl, ?_⟩) ?_ ?_
     rotate_left
     · intro w'; go_simp; with_reducible rfl
     rotate_left
     · simp only [Act.put, z80ad_q1, z80ad_q2, z80ad_q3, i64_w, i32_w]; rfl
     refine z80ad_u 14 44 z80ad_m32 HT_ (v := undef) (a' := ?_) rfl rfl (by kernel_rfl) (fun _ _ _ h => h) (Or.inr ⟨by rfl, rfl⟩) ?_ ?_
     rotate_left
     · simp only [Act.put, z80ad_q1, z80ad_q2, z80ad_q3, i64_w, i32_w]; rfl
     refine z80ad_u 15 45 z80ad_m59 HT_ (v := undef) (a' := ?_) rfl rfl (by kernel_rfl) (fun _ _ _ h => h) (Or.inr ⟨by rfl, rfl⟩) ?_ ?_
     rotate_left
     · simp only [Act.put, z80ad_q1, z80ad_q2, z80ad_q3, i64_w, i32_w]; rfl
     refine z80ad_u 16 46 z80ad_m34 HT_ (v := undef) (a' := ?_) rfl rfl (by kernel_rfl) (fun _ _ _ h => h) (Or.inr ⟨by rfl, rfl⟩) ?_ ?_
     rotate_left
     · simp only [Act.put, z80ad_q1, z80ad_q2, z80ad_q3, i64_w, i32_w]; rfl
     refine z80ad_u 17 47 z80ad_m35 HT_ (v := undef) (a' := ?_) rfl rfl (by kernel_rfl) (fun _ _ _ h => h) (Or.inr ⟨by rfl, rfl⟩) ?_ ?_
     rotate_left
     · simp only [Act.put, z80ad_q1, z80ad_q2, z80ad_q3, i64_w, i32_w]; rfl
     refine z80ad_u 18 48 z80ad_m36 HT_ (v := undef) (a' := ?_) rfl rfl (by kernel_rfl) (fun _ _ _ h => h) (Or.inr ⟨by rfl, rfl⟩) ?_ ?_
     rotate_left
     · simp only [Act.put, z80ad_q1, z80ad_q2, z80ad_q3, i64_w, i32_w]; rfl
     refine z80ad_u 19 49 z80ad_m37 HT_ (v := ?_) (a' := ?_) rfl rfl (by kernel_rfl) (fun _ _ _ h => h) (Or.inl ⟨by rfl, ?_⟩) ?_ ?_
     rotate_left
     · intro w'; go_simp; with_reducible rfl
     rotate_left
     · simp only [Act.put, z80ad_q1, z80ad_q2, z80ad_q3, i64_w, i32_w]; rfl
     refine z80ad_u 20 50 z80ad_m38 HT_ (v := ?_) (a' := ?_) rfl rfl (by kernel_rfl) (fun _ _ _ h => h) (Or.inl ⟨by rfl, ?_⟩) ?_ ?_
     rotate_left
     · intro w'; go_simp; with_reducible rfl
     rotate_left
     · simp only [Act.put, z80ad_q1, z80ad_q2, z80ad_q3, i64_w, i32_w]; rfl
     refine z80ad_u 21 51 z80ad_m39 HT_ (v := undef) (a' := ?_) rfl rfl (by kernel_rfl) (fun _ _ _ h => h) (Or.inr ⟨by rfl, rfl⟩) ?_ ?_
     rotate_left
     · simp only [Act.put, z80ad_q1, z80ad_q2, z80ad_q3, i64_w, i32_w]; rfl
     refine z80ad_u 22 52 z80ad_m58 HT_ (v := undef) (a' := ?_) rfl rfl (by kernel_rfl) (fun _ _ _ h => h) (Or.inr ⟨by rfl, rfl⟩) ?_ ?_
     rotate_left
     · simp only [Act.put, z80ad_q1, z80ad_q2, z80ad_q3, i64_w, i32_w]; rfl
     refine z80ad_u 23 53 z80ad_m41 HT_ (v := undef) (a' := ?_) rfl rfl (by kernel_rfl) (fun _ _ _ h => h) (Or.inr ⟨by rfl, rfl⟩) ?_ ?_
     rotate_left
     · simp only [Act.put, z80ad_q1, z80ad_q2, z80ad_q3, i64_w, i32_w]; rfl
     refine z80ad_u 24 54 z80ad_m42 HT_ (v := undef) (a' := ?_) rfl rfl (by kernel_rfl) (fun _ _ _ h => h) (Or.inr ⟨by rfl, rfl⟩) ?_ ?_
     rotate_left
     · simp only [Act.put, z80ad_q1, z80ad_q2, z80ad_q3, i64_w, i32_w]; rfl
     refine z80ad_u 25 55 z80ad_m43 HT_ (v := undef) (a' := ?_) rfl rfl (by kernel_rfl) (fun _ _ _ h => h) (Or.inr ⟨by rfl, rfl⟩) ?_ ?_
     rotate_left
     · simp only [Act.put, z80ad_q1, z80ad_q2, z80ad_q3, i64_w, i32_w]; rfl
     refine z80ad_u 26 56 z80ad_m44 HT_ (v := ?_) (a' := ?_) rfl rfl (by kernel_rfl) (fun _ _ _ h => h) (Or.inl ⟨by rfl, ?_⟩) ?_ ?_
     rotate_left
     · intro w'; go_simp; with_reducible rfl
     rotate_left
     · simp only [Act.put, z80ad_q1, z80ad_q2, z80ad_q3, i64_w, i32_w]; rfl
     refine z80ad_u 27 57 z80ad_m45 HT_ (v := ?_) (a' := ?_) rfl rfl (by kernel_rfl) (fun _ _ _ h => h) (Or.inl ⟨by rfl, ?_⟩) ?_ ?_
     rotate_left
     · intro w'; go_simp; with_reducible rfl
     rotate_left
     · simp only [Act.put, z80ad_q1, z80ad_q2, z80ad_q3, i64_w, i32_w]; rfl
     refine z80ad_u 28 58 z80ad_m46 HT_ (v := undef) (a' := ?_) rfl rfl (by kernel_rfl) (fun _ _ _ h => h) (Or.inr ⟨by rfl, rfl⟩) ?_ ?_
     rotate_left
     · simp only [Act.put, z80ad_q1, z80ad_q2, z80ad_q3, i64_w, i32_w]; rfl
     refine z80ad_u 29 59 z80ad_m47 HT_ (v := undef) (a' := ?_) rfl rfl (by kernel_rfl) (fun _ _ _ h => h) (Or.inr ⟨by rfl, rfl⟩) ?_ ?_
     rotate_left
     · simp only [Act.put, z80ad_q1, z80ad_q2, z80ad_q3, i64_w, i32_w]; rfl
     refine z80ad_u 30 60 z80ad_m56 HT_ (v := undef) (a' := ?_) rfl rfl (by kernel_rfl) (fun _ _ _ h => h) (Or.inr ⟨by rfl, rfl⟩) ?_ ?_
     rotate_left
     · simp only [Act.put, z80ad_q1, z80ad_q2, z80ad_q3, i64_w, i32_w]; rfl
     refine z80ad_u 31 61 z80ad_m57 HT_ (v := undef) (a' := ?_) rfl rfl (by kernel_rfl) (fun _ _ _ h => h) (Or.inr ⟨by rfl, rfl⟩) ?_ ?_
     rotate_left
     · simp only [Act.put, z80ad_q1, z80ad_q2, z80ad_q3, i64_w, i32_w]; rfl
     refine z80ad_u 32 62 z80ad_m50 HT_ (v := undef) (a' := ?_) rfl rfl (by kernel_rfl) (fun _ _ _ h => h) (Or.inr ⟨by rfl, rfl⟩) ?_ ?_
     rotate_left
     · simp only [Act.put, z80ad_q1, z80ad_q2, z80ad_q3, i64_w, i32_w]; rfl
     refine z80ad_u 33 63 z80ad_m51 HT_ (v := undef) (a' := ?_) rfl rfl (by kernel_rfl) (fun _ _ _ h => h) (Or.inr ⟨by rfl, rfl⟩) ?_ ?_
     rotate_left
     · simp only [Act.put, z80ad_q1, z80ad_q2, z80ad_q3, i64_w, i32_w]; rfl
     refine z80ad_u 34 64 z80ad_m52 HT_ (v := undef) (a' := ?_) rfl rfl (by kernel_rfl) (fun _ _ _ h => h) (Or.inr ⟨by rfl, rfl⟩) ?_ ?_
     rotate_left
     · simp only [Act.put, z80ad_q1, z80ad_q2, z80ad_q3, i64_w, i32_w]; rfl
     refine z80ad_u 35 65 z80ad_m53 HT_ (v := undef) (a' := ?_) rfl rfl (by kernel_rfl) (fun _ _ _ h => h) (Or.inr ⟨by rfl, rfl⟩) ?_ ?_
     rotate_left
     · simp only [Act.put, z80ad_q1, z80ad_q2, z80ad_q3, i64_w, i32_w]; rfl
     refine z80ad_u 36 66 z80ad_m54 HT_ (v := ?_) (a' := ?_) rfl rfl (by kernel_rfl) (fun _ _ _ h => h) (Or.inl ⟨by rfl, ?_⟩) ?_ ?_
     rotate_left
     · intro w'; go_simp; with_reducible rfl
     rotate_left
     · simp only [Act.put, z80ad_q1, z80ad_q2, z80ad_q3, i64_w, i32_w]; rfl
     refine z80ad_u 37 6 z80ad_m55 HT_ (v := ?_) (a' := ?_) rfl rfl (by kernel_rfl) (fun _ _ _ h => h) (Or.inl ⟨by rfl, ?_⟩) ?_ ?_
     rotate_left
     · intro w'; go_simp; with_reducible rfl
     rotate_left
     · simp only [Act.put, z80ad_q1, z80ad_q2, z80ad_q3, i64_w, i32_w]; rfl
     refine done_ (done_of HT_.out (by kernel_rfl)) ?_
     try go_wp2
     go_meet
     case rel => exact ⟨_, (false), (by first | rfl | (simp; done) | (simp [*]; done)), H', ⟨by first | omega | exact Nat.le_refl _⟩, ⟨by (with_reducible repeat (first | refine blk_drewN ?_ _ | refine blk_drew ?_ | refine blk_alloc ?_ _)); exact BK231.out⟩, ⟨by (with_reducible repeat (first | refine blk_drewN ?_ _ | refine blk_drew ?_ | refine blk_alloc ?_ _)); exact BK232.out⟩, ⟨by (with_reducible repeat (first | refine blk_drewN ?_ _ | refine blk_drew ?_ | refine blk_alloc ?_ _)); exact BK238.out⟩, ⟨by (with_reducible repeat (first | refine blk_drewN ?_ _ | refine blk_drew ?_ | refine blk_alloc ?_ _)); exact BK249.out⟩, ⟨by repeat (first | (with_reducible first | exact HB.out | apply below_alloc | apply pw_below_drewN | apply below_drew1 | refine below_set ?_ GE231.out | refine below_set ?_ GE232.out | refine below_set ?_ GE238.out | refine below_set ?_ GE249.out) | exact HB.out)⟩⟩
   ·
    replace c31 := Bool.eq_false_iff.mpr c31
    subst c31
    have H1 : (pledgelaw15_ValueSays.j0 k false) = some r := by rw [if_neg (show ¬ (false = true) by decide)] at H; exact H
    clear H
    have H := H1
    clear H1
    have H' := Aside0.mk H
    clear H
    try go_wp2
    have n0_ : Aside0 ((((w26.setCell ⟨gb249, 0, none⟩ (.int .i64 t245)).setCell ⟨gb249, 1, none⟩ (.int .i64 t246)).setCell ⟨gb249, 2, none⟩ (.int .i64 t247)).heap[gb231]? = some (.cells #[.int .i64 a0_0, .int .i64 a0_1, .int .i64 a0_2, .int .i64 a0_3, .int .i64 a0_4] 23 (0, 0))) := ⟨by (with_reducible repeat (first | refine blk_drewN ?_ _ | refine blk_drew ?_ | refine blk_alloc ?_ _ | refine blk_far ?_ NB231_249.out _)); exact BK231.out⟩
    have n1_ : Aside0 ((((w26.setCell ⟨gb249, 0, none⟩ (.int .i64 t245)).setCell ⟨gb249, 1, none⟩ (.int .i64 t246)).setCell ⟨gb249, 2, none⟩ (.int .i64 t247)).heap[gb232]? = some (.cells #[.int .i64 a2_0, .int .i64 a2_1, .bool a2_2, .int .i64 a2_3, .int .i64 a2_4, .int .i64 a2_5] 25 (0, 0))) := ⟨by (with_reducible repeat (first | refine blk_drewN ?_ _ | refine blk_drew ?_ | refine blk_alloc ?_ _ | refine blk_far ?_ NB232_249.out _)); exact BK232.out⟩
    have n2_ : Aside0 ((((w26.setCell ⟨gb249, 0, none⟩ (.int .i64 t245)).setCell ⟨gb249, 1, none⟩ (.int .i64 t246)).setCell ⟨gb249, 2, none⟩ (.int .i64 t247)).heap[gb238]? = some (.cells #[.int .i64 t234, .int .i64 t235, .int .i64 t236] 28 (0, 0))) := ⟨by (with_reducible repeat (first | refine blk_drewN ?_ _ | refine blk_drew ?_ | refine blk_alloc ?_ _ | refine blk_far ?_ NB238_249.out _)); exact BK238.out⟩
    have n3_ : Aside0 ((((w26.setCell ⟨gb249, 0, none⟩ (.int .i64 t245)).setCell ⟨gb249, 1, none⟩ (.int .i64 t246)).setCell ⟨gb249, 2, none⟩ (.int .i64 t247)).heap[gb249]? = some (.cells #[.int .i64 t245, .int .i64 t246, .int .i64 t247] 33 (0, 0))) := ⟨by (with_reducible repeat (first | refine blk_drewN ?_ _ | refine blk_drew ?_ | refine blk_alloc ?_ _)); refine blk_put (cs := #[.int .i64 t245, .int .i64 t246, .int .i64 0]) ?_ 2 _ rfl; (with_reducible repeat (first | refine blk_drewN ?_ _ | refine blk_drew ?_ | refine blk_alloc ?_ _)); refine blk_put (cs := #[.int .i64 t245, .int .i64 0, .int .i64 0]) ?_ 1 _ rfl; (with_reducible repeat (first | refine blk_drewN ?_ _ | refine blk_drew ?_ | refine blk_alloc ?_ _)); refine blk_put (cs := #[.int .i64 0, .int .i64 0, .int .i64 0]) ?_ 0 _ rfl; (with_reducible repeat (first | refine blk_drewN ?_ _ | refine blk_drew ?_ | refine blk_alloc ?_ _)); exact BK249.out⟩
    have n4_ : Aside0 (Below w.heap.size w (((w26.setCell ⟨gb249, 0, none⟩ (.int .i64 t245)).setCell ⟨gb249, 1, none⟩ (.int .i64 t246)).setCell ⟨gb249, 2, none⟩ (.int .i64 t247))) := ⟨by repeat (first | (with_reducible first | exact HB.out | apply below_alloc | apply pw_below_drewN | apply below_drew1 | refine below_set ?_ GE231.out | refine below_set ?_ GE232.out | refine below_set ?_ GE238.out | refine below_set ?_ GE249.out) | exact HB.out)⟩
    (try clear BK231)
    (try clear BK232)
    (try clear BK238)
    (try clear BK249)
    (try clear HB)
    generalize (((w26.setCell ⟨gb249, 0, none⟩ (.int .i64 t245)).setCell ⟨gb249, 1, none⟩ (.int .i64 t246)).setCell ⟨gb249, 2, none⟩ (.int .i64 t247)) = w53 at n0_ n1_ n2_ n3_ n4_ ⊢
    have BK231 := n0_
    have BK232 := n1_
    have BK238 := n2_
    have BK249 := n3_
    have HB := n4_
    clear n0_ n1_ n2_ n3_ n4_
    (try (rw [drewN_self w53]; generalize hq_ : World.drewN w53 _ = w53; have n0_ : Aside0 (w53.heap[gb231]? = some (.cells #[.int .i64 a0_0, .int .i64 a0_1, .int .i64 a0_2, .int .i64 a0_3, .int .i64 a0_4] 23 (0, 0))) := ⟨by rw [← hq_]; exact (by (with_reducible repeat (first | refine blk_drewN ?_ _ | refine blk_drew ?_ | refine blk_alloc ?_ _)); exact BK231.out)⟩; have n1_ : Aside0 (w53.heap[gb232]? = some (.cells #[.int .i64 a2_0, .int .i64 a2_1, .bool a2_2, .int .i64 a2_3, .int .i64 a2_4, .int .i64 a2_5] 25 (0, 0))) := ⟨by rw [← hq_]; exact (by (with_reducible repeat (first | refine blk_drewN ?_ _ | refine blk_drew ?_ | refine blk_alloc ?_ _)); exact BK232.out)⟩; have n2_ : Aside0 (w53.heap[gb238]? = some (.cells #[.int .i64 t234, .int .i64 t235, .int .i64 t236] 28 (0, 0))) := ⟨by rw [← hq_]; exact (by (with_reducible repeat (first | refine blk_drewN ?_ _ | refine blk_drew ?_ | refine blk_alloc ?_ _)); exact BK238.out)⟩; have n3_ : Aside0 (w53.heap[gb249]? = some (.cells #[.int .i64 t245, .int .i64 t246, .int .i64 t247] 33 (0, 0))) := ⟨by rw [← hq_]; exact (by (with_reducible repeat (first | refine blk_drewN ?_ _ | refine blk_drew ?_ | refine blk_alloc ?_ _)); exact BK249.out)⟩; have n4_ : Aside0 (Below w.heap.size w w53) := ⟨by rw [← hq_]; exact (by repeat (first | (with_reducible first | exact HB.out | apply below_alloc | apply pw_below_drewN | apply below_drew1 | refine below_set ?_ GE231.out | refine below_set ?_ GE232.out | refine below_set ?_ GE238.out | refine below_set ?_ GE249.out) | exact HB.out))⟩; clear BK231 BK232 BK238 BK249 HB hq_; have BK231 := n0_; have BK232 := n1_; have BK238 := n2_; have BK249 := n3_; have HB := n4_; clear n0_ n1_ n2_ n3_ n4_))
    have n0_ := Aside0.mk (blk_drew BK231.out)
    have n1_ := Aside0.mk (blk_drew BK232.out)
    have n2_ := Aside0.mk (blk_drew BK238.out)
    have n3_ := Aside0.mk (blk_drew BK249.out)
    have n4_ := Aside0.mk (below_drew1 HB.out)
    clear BK231
    clear BK232
    clear BK238
    clear BK249
    clear HB
    have BK231 := n0_
    have BK232 := n1_
    have BK238 := n2_
    have BK249 := n3_
    have HB := n4_
    clear n0_ n1_ n2_ n3_ n4_
    have CA30 := fun W hG_ => pledgesee_Is.calls t237 t248 false W hG_ A30.out
    try simp only [errW_none, errW_some] at CA30
    refine start_ (n := 38) (S := fun w' => True) (ds := []) z80ad_m17 (by kernel_rfl) rfl rfl trivial (fun hHeld => ?_); refine with_tabW pledgelaw15_ValueSays.tab6 pledgelaw15_ValueSays.bits6 (fun HT_ HW_ => ?_)
    generalize w53.drew = w54 at BK231 BK232 BK238 BK249 HB hHeld ⊢
    refine z80ad_u 0 30 z80ad_m18 HT_ (v := ?_) (a' := ?_) rfl rfl (by kernel_rfl) (fun _ _ _ h => h) (Or.inl ⟨by rfl, ?_⟩) ?_ ?_
    rotate_left
    · intro w'; go_simp; with_reducible rfl
    rotate_left
    · simp only [Act.put, z80ad_q1, z80ad_q2, z80ad_q3, i64_w, i32_w]; rfl
    refine z80ad_u 1 31 z80ad_m19 HT_ (v := ?_) (a' := ?_) rfl rfl (by kernel_rfl) (fun _ _ _ h => h) (Or.inl ⟨by rfl, ?_⟩) ?_ ?_
    rotate_left
    · intro w'; go_simp; with_reducible rfl
    rotate_left
    · simp only [Act.put, z80ad_q1, z80ad_q2, z80ad_q3, i64_w, i32_w]; rfl
    refine z80ad_u 2 32 z80ad_m20 HT_ (v := ?_) (a' := ?_) rfl rfl (by kernel_rfl) (fun _ _ _ h => h) (Or.inl ⟨by rfl, ?_⟩) ?_ ?_
    rotate_left
    · intro w'; go_simp; with_reducible rfl
    rotate_left
    · simp only [Act.put, z80ad_q1, z80ad_q2, z80ad_q3, i64_w, i32_w]; rfl
    refine z80ad_u 3 33 z80ad_m21 HT_ (v := ?_) (a' := ?_) rfl rfl (by kernel_rfl) (fun _ _ _ h => h) (Or.inl ⟨by rfl, ?_⟩) ?_ ?_
    rotate_left
    · intro w'; go_simp; with_reducible rfl
    rotate_left
    · simp only [Act.put, z80ad_q1, z80ad_q2, z80ad_q3, i64_w, i32_w]; rfl
    refine one_ (i := 4) (N := some 34) z80ad_m22 rfl rfl (one_of HT_.out (by kernel_rfl)) (by decide) (fun K hK => ?_)
    refine goes_ Tryd.func11 (by kernel_rfl) rfl #[errW t237, .int .i64 t248] (by rfl) rfl rfl (by (try simp only [List.map_toArray, List.map_cons, List.map_nil]); first | done | rfl | (simp only [List.length_drop, List.length_take]; rfl)) ?_
    with_reducible refine (CA30 _ ?side1).mono ?_
    (case side1 => exact GlobOK.below HG.out (by repeat (first | (with_reducible first | exact HB.out | apply below_alloc | apply pw_below_drewN | apply below_drew1 | refine below_set ?_ GE231.out | refine below_set ?_ GE232.out | refine below_set ?_ GE238.out | refine below_set ?_ GE249.out) | exact HB.out)))
    rintro e w55 ⟨rfl, hb⟩
    refine ⟨_, rfl, ?_⟩
    have n0_ := Aside0.mk (blk_below (g := gb231) (o := .cells #[.int .i64 a0_0, .int .i64 a0_1, .int .i64 a0_2, .int .i64 a0_3, .int .i64 a0_4] 23 (0, 0)) (by (with_reducible repeat (first | refine blk_drewN ?_ _ | refine blk_drew ?_ | refine blk_alloc ?_ _)); exact BK231.out) hb)
    have n1_ := Aside0.mk (blk_below (g := gb232) (o := .cells #[.int .i64 a2_0, .int .i64 a2_1, .bool a2_2, .int .i64 a2_3, .int .i64 a2_4, .int .i64 a2_5] 25 (0, 0)) (by (with_reducible repeat (first | refine blk_drewN ?_ _ | refine blk_drew ?_ | refine blk_alloc ?_ _)); exact BK232.out) hb)
    have n2_ := Aside0.mk (blk_below (g := gb238) (o := .cells #[.int .i64 t234, .int .i64 t235, .int .i64 t236] 28 (0, 0)) (by (with_reducible repeat (first | refine blk_drewN ?_ _ | refine blk_drew ?_ | refine blk_alloc ?_ _)); exact BK238.out) hb)
    have n3_ := Aside0.mk (blk_below (g := gb249) (o := .cells #[.int .i64 t245, .int .i64 t246, .int .i64 t247] 33 (0, 0)) (by (with_reducible repeat (first | refine blk_drewN ?_ _ | refine blk_drew ?_ | refine blk_alloc ?_ _)); exact BK249.out) hb)
    have n4_ := Aside0.mk (below_step (by repeat (first | (with_reducible first | exact HB.out | apply below_alloc | apply pw_below_drewN | apply below_drew1 | refine below_set ?_ GE231.out | refine below_set ?_ GE232.out | refine below_set ?_ GE238.out | refine below_set ?_ GE249.out) | exact HB.out)) hb)
    clear BK231
    clear BK232
    clear BK238
    clear BK249
    clear HB
    have BK231 := n0_
    have BK232 := n1_
    have BK238 := n2_
    have BK249 := n3_
    have HB := n4_
    clear n0_ n1_ n2_ n3_ n4_
    (try clear hb)
    (try clear hb2)
    (try clear hk)
    (try clear hi)
    refine hK.out _ _ trivial (fun hHeld => ?_)
    clear hK K
    refine norm_ (a' := ?_) ?_ ?_
    rotate_left
    ·
     show Act.put _ (some 34) _ = _
     simp only [Act.put, z80ad_q1, z80ad_q2, z80ad_q3, i64_w, i32_w]
     rfl
    refine z80ad_u 5 35 z80ad_m23 HT_ (v := ?_) (a' := ?_) rfl rfl (by kernel_rfl) (fun _ _ _ h => h) (Or.inl ⟨by rfl, ?_⟩) ?_ ?_
    rotate_left
    · intro w'; go_simp; with_reducible rfl
    rotate_left
    · simp only [Act.put, z80ad_q1, z80ad_q2, z80ad_q3, i64_w, i32_w]; rfl
    refine z80ad_u 6 36 z80ad_m24 HT_ (v := ?_) (a' := ?_) rfl rfl (by kernel_rfl) (fun _ _ _ h => h) (Or.inl ⟨by rfl, ?_⟩) ?_ ?_
    rotate_left
    · intro w'; go_simp; with_reducible rfl
    rotate_left
    · simp only [Act.put, z80ad_q1, z80ad_q2, z80ad_q3, i64_w, i32_w]; rfl
    refine z80ad_u 7 37 z80ad_m25 HT_ (v := undef) (a' := ?_) rfl rfl (by kernel_rfl) (fun _ _ _ h => h) (Or.inr ⟨by rfl, rfl⟩) ?_ ?_
    rotate_left
    · simp only [Act.put, z80ad_q1, z80ad_q2, z80ad_q3, i64_w, i32_w]; rfl
    refine z80ad_u 8 38 z80ad_m60 HT_ (v := undef) (a' := ?_) rfl rfl (by kernel_rfl) (fun _ _ _ h => h) (Or.inr ⟨by rfl, rfl⟩) ?_ ?_
    rotate_left
    · simp only [Act.put, z80ad_q1, z80ad_q2, z80ad_q3, i64_w, i32_w]; rfl
    refine z80ad_u 9 39 z80ad_m27 HT_ (v := undef) (a' := ?_) rfl rfl (by kernel_rfl) (fun _ _ _ h => h) (Or.inr ⟨by rfl, rfl⟩) ?_ ?_
    rotate_left
    · simp only [Act.put, z80ad_q1, z80ad_q2, z80ad_q3, i64_w, i32_w]; rfl
    refine z80ad_u 10 40 z80ad_m28 HT_ (v := undef) (a' := ?_) rfl rfl (by kernel_rfl) (fun _ _ _ h => h) (Or.inr ⟨by rfl, rfl⟩) ?_ ?_
    rotate_left
    · simp only [Act.put, z80ad_q1, z80ad_q2, z80ad_q3, i64_w, i32_w]; rfl
    refine z80ad_u 11 41 z80ad_m29 HT_ (v := undef) (a' := ?_) rfl rfl (by kernel_rfl) (fun _ _ _ h => h) (Or.inr ⟨by rfl, rfl⟩) ?_ ?_
    rotate_left
    · simp only [Act.put, z80ad_q1, z80ad_q2, z80ad_q3, i64_w, i32_w]; rfl
    refine z80ad_u 12 42 z80ad_m30 HT_ (v := ?_) (a' := ?_) rfl rfl (by kernel_rfl) (fun _ _ _ h => h) (Or.inl ⟨by rfl, ?_⟩) ?_ ?_
    rotate_left
    · intro w'; go_simp; with_reducible rfl
    rotate_left
    · simp only [Act.put, z80ad_q1, z80ad_q2, z80ad_q3, i64_w, i32_w]; rfl
    refine z80ad_u 13 43 z80ad_m31 HT_ (v := ?_) (a' := ?_) rfl rfl (by kernel_rfl) (fun _ _ _ h => h) (Or.inl ⟨by rfl, ?_⟩) ?_ ?_
    rotate_left
    · intro w'; go_simp; with_reducible rfl
    rotate_left
    · simp only [Act.put, z80ad_q1, z80ad_q2, z80ad_q3, i64_w, i32_w]; rfl
    refine z80ad_u 14 44 z80ad_m32 HT_ (v := undef) (a' := ?_) rfl rfl (by kernel_rfl) (fun _ _ _ h => h) (Or.inr ⟨by rfl, rfl⟩) ?_ ?_
    rotate_left
    · simp only [Act.put, z80ad_q1, z80ad_q2, z80ad_q3, i64_w, i32_w]; rfl
    refine z80ad_u 15 45 z80ad_m59 HT_ (v := undef) (a' := ?_) rfl rfl (by kernel_rfl) (fun _ _ _ h => h) (Or.inr ⟨by rfl, rfl⟩) ?_ ?_
    rotate_left
    · simp only [Act.put, z80ad_q1, z80ad_q2, z80ad_q3, i64_w, i32_w]; rfl
    refine z80ad_u 16 46 z80ad_m34 HT_ (v := undef) (a' := ?_) rfl rfl (by kernel_rfl) (fun _ _ _ h => h) (Or.inr ⟨by rfl, rfl⟩) ?_ ?_
    rotate_left
    · simp only [Act.put, z80ad_q1, z80ad_q2, z80ad_q3, i64_w, i32_w]; rfl
    refine z80ad_u 17 47 z80ad_m35 HT_ (v := undef) (a' := ?_) rfl rfl (by kernel_rfl) (fun _ _ _ h => h) (Or.inr ⟨by rfl, rfl⟩) ?_ ?_
    rotate_left
    · simp only [Act.put, z80ad_q1, z80ad_q2, z80ad_q3, i64_w, i32_w]; rfl
    refine z80ad_u 18 48 z80ad_m36 HT_ (v := undef) (a' := ?_) rfl rfl (by kernel_rfl) (fun _ _ _ h => h) (Or.inr ⟨by rfl, rfl⟩) ?_ ?_
    rotate_left
    · simp only [Act.put, z80ad_q1, z80ad_q2, z80ad_q3, i64_w, i32_w]; rfl
    refine z80ad_u 19 49 z80ad_m37 HT_ (v := ?_) (a' := ?_) rfl rfl (by kernel_rfl) (fun _ _ _ h => h) (Or.inl ⟨by rfl, ?_⟩) ?_ ?_
    rotate_left
    · intro w'; go_simp; with_reducible rfl
    rotate_left
    · simp only [Act.put, z80ad_q1, z80ad_q2, z80ad_q3, i64_w, i32_w]; rfl
    refine z80ad_u 20 50 z80ad_m38 HT_ (v := ?_) (a' := ?_) rfl rfl (by kernel_rfl) (fun _ _ _ h => h) (Or.inl ⟨by rfl, ?_⟩) ?_ ?_
    rotate_left
    · intro w'; go_simp; with_reducible rfl
    rotate_left
    · simp only [Act.put, z80ad_q1, z80ad_q2, z80ad_q3, i64_w, i32_w]; rfl
    refine z80ad_u 21 51 z80ad_m39 HT_ (v := undef) (a' := ?_) rfl rfl (by kernel_rfl) (fun _ _ _ h => h) (Or.inr ⟨by rfl, rfl⟩) ?_ ?_
    rotate_left
    · simp only [Act.put, z80ad_q1, z80ad_q2, z80ad_q3, i64_w, i32_w]; rfl
    refine z80ad_u 22 52 z80ad_m58 HT_ (v := undef) (a' := ?_) rfl rfl (by kernel_rfl) (fun _ _ _ h => h) (Or.inr ⟨by rfl, rfl⟩) ?_ ?_
    rotate_left
    · simp only [Act.put, z80ad_q1, z80ad_q2, z80ad_q3, i64_w, i32_w]; rfl
    refine z80ad_u 23 53 z80ad_m41 HT_ (v := undef) (a' := ?_) rfl rfl (by kernel_rfl) (fun _ _ _ h => h) (Or.inr ⟨by rfl, rfl⟩) ?_ ?_
    rotate_left
    · simp only [Act.put, z80ad_q1, z80ad_q2, z80ad_q3, i64_w, i32_w]; rfl
    refine z80ad_u 24 54 z80ad_m42 HT_ (v := undef) (a' := ?_) rfl rfl (by kernel_rfl) (fun _ _ _ h => h) (Or.inr ⟨by rfl, rfl⟩) ?_ ?_
    rotate_left
    · simp only [Act.put, z80ad_q1, z80ad_q2, z80ad_q3, i64_w, i32_w]; rfl
    refine z80ad_u 25 55 z80ad_m43 HT_ (v := undef) (a' := ?_) rfl rfl (by kernel_rfl) (fun _ _ _ h => h) (Or.inr ⟨by rfl, rfl⟩) ?_ ?_
    rotate_left
    · simp only [Act.put, z80ad_q1, z80ad_q2, z80ad_q3, i64_w, i32_w]; rfl
    refine z80ad_u 26 56 z80ad_m44 HT_ (v := ?_) (a' := ?_) rfl rfl (by kernel_rfl) (fun _ _ _ h => h) (Or.inl ⟨by rfl, ?_⟩) ?_ ?_
    rotate_left
    · intro w'; go_simp; with_reducible rfl
    rotate_left
    · simp only [Act.put, z80ad_q1, z80ad_q2, z80ad_q3, i64_w, i32_w]; rfl
    refine z80ad_u 27 57 z80ad_m45 HT_ (v := ?_) (a' := ?_) rfl rfl (by kernel_rfl) (fun _ _ _ h => h) (Or.inl ⟨by rfl, ?_⟩) ?_ ?_
    rotate_left
    · intro w'; go_simp; with_reducible rfl
    rotate_left
    · simp only [Act.put, z80ad_q1, z80ad_q2, z80ad_q3, i64_w, i32_w]; rfl
    refine z80ad_u 28 58 z80ad_m46 HT_ (v := undef) (a' := ?_) rfl rfl (by kernel_rfl) (fun _ _ _ h => h) (Or.inr ⟨by rfl, rfl⟩) ?_ ?_
    rotate_left
    · simp only [Act.put, z80ad_q1, z80ad_q2, z80ad_q3, i64_w, i32_w]; rfl
    refine z80ad_u 29 59 z80ad_m47 HT_ (v := undef) (a' := ?_) rfl rfl (by kernel_rfl) (fun _ _ _ h => h) (Or.inr ⟨by rfl, rfl⟩) ?_ ?_
    rotate_left
    · simp only [Act.put, z80ad_q1, z80ad_q2, z80ad_q3, i64_w, i32_w]; rfl
    refine z80ad_u 30 60 z80ad_m56 HT_ (v := undef) (a' := ?_) rfl rfl (by kernel_rfl) (fun _ _ _ h => h) (Or.inr ⟨by rfl, rfl⟩) ?_ ?_
    rotate_left
    · simp only [Act.put, z80ad_q1, z80ad_q2, z80ad_q3, i64_w, i32_w]; rfl
    refine z80ad_u 31 61 z80ad_m57 HT_ (v := undef) (a' := ?_) rfl rfl (by kernel_rfl) (fun _ _ _ h => h) (Or.inr ⟨by rfl, rfl⟩) ?_ ?_
    rotate_left
    · simp only [Act.put, z80ad_q1, z80ad_q2, z80ad_q3, i64_w, i32_w]; rfl
    refine z80ad_u 32 62 z80ad_m50 HT_ (v := undef) (a' := ?_) rfl rfl (by kernel_rfl) (fun _ _ _ h => h) (Or.inr ⟨by rfl, rfl⟩) ?_ ?_
    rotate_left
    · simp only [Act.put, z80ad_q1, z80ad_q2, z80ad_q3, i64_w, i32_w]; rfl
    refine z80ad_u 33 63 z80ad_m51 HT_ (v := undef) (a' := ?_) rfl rfl (by kernel_rfl) (fun _ _ _ h => h) (Or.inr ⟨by rfl, rfl⟩) ?_ ?_
    rotate_left
    · simp only [Act.put, z80ad_q1, z80ad_q2, z80ad_q3, i64_w, i32_w]; rfl
    refine z80ad_u 34 64 z80ad_m52 HT_ (v := undef) (a' := ?_) rfl rfl (by kernel_rfl) (fun _ _ _ h => h) (Or.inr ⟨by rfl, rfl⟩) ?_ ?_
    rotate_left
    · simp only [Act.put, z80ad_q1, z80ad_q2, z80ad_q3, i64_w, i32_w]; rfl
    refine z80ad_u 35 65 z80ad_m53 HT_ (v := undef) (a' := ?_) rfl rfl (by kernel_rfl) (fun _ _ _ h => h) (Or.inr ⟨by rfl, rfl⟩) ?_ ?_
    rotate_left
    · simp only [Act.put, z80ad_q1, z80ad_q2, z80ad_q3, i64_w, i32_w]; rfl
    refine z80ad_u 36 66 z80ad_m54 HT_ (v := ?_) (a' := ?_) rfl rfl (by kernel_rfl) (fun _ _ _ h => h) (Or.inl ⟨by rfl, ?_⟩) ?_ ?_
    rotate_left
    · intro w'; go_simp; with_reducible rfl
    rotate_left
    · simp only [Act.put, z80ad_q1, z80ad_q2, z80ad_q3, i64_w, i32_w]; rfl
    refine z80ad_u 37 6 z80ad_m55 HT_ (v := ?_) (a' := ?_) rfl rfl (by kernel_rfl) (fun _ _ _ h => h) (Or.inl ⟨by rfl, ?_⟩) ?_ ?_
    rotate_left
    · intro w'; go_simp; with_reducible rfl
    rotate_left
    · simp only [Act.put, z80ad_q1, z80ad_q2, z80ad_q3, i64_w, i32_w]; rfl
    refine done_ (done_of HT_.out (by kernel_rfl)) ?_
    try go_wp2
    go_meet
    case rel => exact ⟨_, (false), (by first | rfl | (simp; done) | (simp [*]; done)), H', ⟨by first | omega | exact Nat.le_refl _⟩, ⟨by (with_reducible repeat (first | refine blk_drewN ?_ _ | refine blk_drew ?_ | refine blk_alloc ?_ _)); exact BK231.out⟩, ⟨by (with_reducible repeat (first | refine blk_drewN ?_ _ | refine blk_drew ?_ | refine blk_alloc ?_ _)); exact BK232.out⟩, ⟨by (with_reducible repeat (first | refine blk_drewN ?_ _ | refine blk_drew ?_ | refine blk_alloc ?_ _)); exact BK238.out⟩, ⟨by (with_reducible repeat (first | refine blk_drewN ?_ _ | refine blk_drew ?_ | refine blk_alloc ?_ _)); exact BK249.out⟩, ⟨by repeat (first | (with_reducible first | exact HB.out | apply below_alloc | apply pw_below_drewN | apply below_drew1 | refine below_set ?_ GE231.out | refine below_set ?_ GE232.out | refine below_set ?_ GE238.out | refine below_set ?_ GE249.out) | exact HB.out)⟩⟩
  case rest =>
   clear HC9
   try clear c1
   try clear p2
   try clear c3
   try clear c11
   try clear c31
   try clear c32
   try clear c32b0
   try clear c32b1
   obtain ⟨kq, x6_8, rfl, HA, HJ8, BK231, BK232, BK238, BK249, HB⟩ := hcut
   cases kq with
   | zero => exact absurd HA.out (by simp [pledgelaw15_ValueSays.j0])
   | succ kj8 =>
    have H := HA.out
    clear HA
    simp only [pledgelaw15_ValueSays.j0] at H
    obtain rfl := Option.some.inj H
    go_wp2
    go_ret
    exact ⟨by first | rfl | (simp [errW_none, errW_some] <;> rfl) | (exfalso; simp_all; done) | (simp [*, errW_none, errW_some] <;> rfl), by repeat (first | (with_reducible first | exact HB.out | apply below_alloc | apply pw_below_drewN | apply below_drew1 | refine below_set ?_ GE231.out | refine below_set ?_ GE232.out | refine below_set ?_ GE238.out | refine below_set ?_ GE249.out) | exact HB.out)⟩
 ·
  replace c5 := Bool.eq_false_iff.mpr c5
  subst c5
  have H1 : (some false) = some r := by rw [if_neg (show ¬ (false = true) by decide)] at H; exact H
  clear H
  have H := H1
  clear H1
  obtain rfl := Option.some.inj H
  go_enter Tryd.func3, Tryd.ntmps3
  go_wp2_with (first | ((with_reducible refine gate_dst (N := 3) rfl ?_); refine box_event ?hg (N := 3) ?hd (cs := #[.int .i64 a0_0, .int .i64 a0_1, .int .i64 a0_2, .int .i64 a0_3, .int .i64 a0_4]) (t := 23) ?hr ?_; (case hd => rfl); (case hg => rfl); (case hr => first | (go_simp; done) | (go_simp; rfl)); intro gb231 hg w56 hbox hb; have n0_ := Aside0.mk (below_step (by repeat (first | (with_reducible first | exact HB.out | apply below_alloc | apply pw_below_drewN | apply below_drew1) | exact HB.out)) hb); have n1_ := Aside0.mk (hbox); have n2_ := Aside0.mk ((by rw [hg]; exact (below_size (by repeat (first | (with_reducible first | exact HB.out | apply below_alloc | apply pw_below_drewN | apply below_drew1) | exact HB.out))) : w.heap.size ≤ gb231)); have n3_ := Aside0.mk ((by rw [hg]; exact (below_size (by repeat (first | (with_reducible first | exact HB.out | apply below_alloc | apply pw_below_drewN | apply below_drew1) | exact HB.out))) : w.heap.size ≤ gb231)); clear HB; have HB := n0_; have BK231 := n1_; have GW231 := n2_; have GE231 := n3_; clear n0_ n1_ n2_ n3_; clear hb hbox hg) | ((with_reducible refine gate_dst (N := 5) rfl ?_); refine box_event ?hg (N := 5) ?hd (cs := #[.int .i64 a2_0, .int .i64 a2_1, .bool a2_2, .int .i64 a2_3, .int .i64 a2_4, .int .i64 a2_5]) (t := 25) ?hr ?_; (case hd => rfl); (case hg => rfl); (case hr => first | (go_simp; done) | (go_simp; rfl)); intro gb232 hg w57 hbox hb; have n0_ := Aside0.mk (blk_below (g := gb231) (o := .cells #[.int .i64 a0_0, .int .i64 a0_1, .int .i64 a0_2, .int .i64 a0_3, .int .i64 a0_4] 23 (0, 0)) (by (with_reducible repeat (first | refine blk_drewN ?_ _ | refine blk_drew ?_ | refine blk_alloc ?_ _)); exact BK231.out) hb); have n1_ := Aside0.mk (below_step (by repeat (first | (with_reducible first | exact HB.out | apply below_alloc | apply pw_below_drewN | apply below_drew1 | refine below_set ?_ GE231.out) | exact HB.out)) hb); have n2_ := Aside0.mk (hbox); have n3_ := Aside0.mk ((by rw [hg]; exact (below_size (by repeat (first | (with_reducible first | exact HB.out | apply below_alloc | apply pw_below_drewN | apply below_drew1 | refine below_set ?_ GE231.out) | exact HB.out))) : w.heap.size ≤ gb232)); have n4_ := Aside0.mk ((by rw [hg]; exact (below_size (by repeat (first | (with_reducible first | exact HB.out | apply below_alloc | apply pw_below_drewN | apply below_drew1 | refine below_set ?_ GE231.out) | exact HB.out))) : w.heap.size ≤ gb232)); have n5_ := Aside0.mk ((by rw [hg]; exact Nat.ne_of_lt (blk_lt (g := gb231) (o := .cells #[.int .i64 a0_0, .int .i64 a0_1, .int .i64 a0_2, .int .i64 a0_3, .int .i64 a0_4] 23 (0, 0)) (by (with_reducible repeat (first | refine blk_drewN ?_ _ | refine blk_drew ?_ | refine blk_alloc ?_ _)); exact BK231.out)) : gb231 ≠ gb232)); have n6_ := Aside0.mk ((by rw [hg]; exact Nat.ne_of_gt (blk_lt (g := gb231) (o := .cells #[.int .i64 a0_0, .int .i64 a0_1, .int .i64 a0_2, .int .i64 a0_3, .int .i64 a0_4] 23 (0, 0)) (by (with_reducible repeat (first | refine blk_drewN ?_ _ | refine blk_drew ?_ | refine blk_alloc ?_ _)); exact BK231.out)) : gb232 ≠ gb231)); clear BK231; clear HB; have BK231 := n0_; have HB := n1_; have BK232 := n2_; have GW232 := n3_; have GE232 := n4_; have NB231_232 := n5_; have NB232_231 := n6_; clear n0_ n1_ n2_ n3_ n4_ n5_ n6_; clear hb hbox hg) | ((with_reducible refine gate_callee (f := 7) rfl ?_); refine goesL_ (some 12) rfl rfl Tryd.func7 (by kernel_rfl) rfl #[] rfl (by (try simp only [List.map_toArray, List.map_cons, List.map_nil]); first | done | rfl | (simp only [List.length_drop, List.length_take]; rfl)) ?_; (with_reducible refine (pledgelaw15_first.calls k  false _ ?side1 A4.out).mono ?_); (case side1 => exact GlobOK.below HG.out (by repeat (first | (with_reducible first | exact HB.out | apply below_alloc | apply pw_below_drewN | apply below_drew1 | refine below_set ?_ GE231.out | refine below_set ?_ GE232.out) | exact HB.out))); rintro e w58 ⟨rfl, hb⟩; refine ⟨_, rfl, ?_⟩; have n0_ := Aside0.mk (blk_below (g := gb231) (o := .cells #[.int .i64 a0_0, .int .i64 a0_1, .int .i64 a0_2, .int .i64 a0_3, .int .i64 a0_4] 23 (0, 0)) (by (with_reducible repeat (first | refine blk_drewN ?_ _ | refine blk_drew ?_ | refine blk_alloc ?_ _)); exact BK231.out) hb); have n1_ := Aside0.mk (blk_below (g := gb232) (o := .cells #[.int .i64 a2_0, .int .i64 a2_1, .bool a2_2, .int .i64 a2_3, .int .i64 a2_4, .int .i64 a2_5] 25 (0, 0)) (by (with_reducible repeat (first | refine blk_drewN ?_ _ | refine blk_drew ?_ | refine blk_alloc ?_ _)); exact BK232.out) hb); have n2_ := Aside0.mk (below_step (by repeat (first | (with_reducible first | exact HB.out | apply below_alloc | apply pw_below_drewN | apply below_drew1 | refine below_set ?_ GE231.out | refine below_set ?_ GE232.out) | exact HB.out)) hb); clear BK231; clear BK232; clear HB; have BK231 := n0_; have BK232 := n1_; have HB := n2_; clear n0_ n1_ n2_; (try clear hb); (try clear hb2); (try clear hk); (try clear hi)))
  go_ret
  exact ⟨by first | rfl | (simp [errW_none, errW_some] <;> rfl) | (exfalso; simp_all; done) | (simp [*, errW_none, errW_some] <;> rfl), by repeat (first | (with_reducible first | exact HB.out | apply below_alloc | apply pw_below_drewN | apply below_drew1 | refine below_set ?_ GE231.out | refine below_set ?_ GE232.out) | exact HB.out)⟩

/-- The pure statement of pledgelaw15_ValueSays: numbers and lists alone. -/
def pledgelaw15_ValueSays.Pure : Prop := ∀ (a0_0 : Int) (a0_1 : Int) (a0_2 : Int) (a0_3 : Int) (a0_4 : Int) (a1 : Int) (a2_0 : Int) (a2_1 : Int) (a2_2 : Bool) (a2_3 : Int) (a2_4 : Int) (a2_5 : Int), Rng .i64 a0_0 → Rng .i64 a0_1 → Rng .i64 a0_2 → Rng .i64 a0_3 → Rng .i64 a0_4 → Rng .i64 a1 → Rng .i64 a2_0 → Rng .i64 a2_1 → Rng .i64 a2_3 → Rng .i64 a2_4 → Rng .i64 a2_5 → ∃ k, pledgelaw15_ValueSays.f k a0_0 a0_1 a0_2 a0_3 a0_4 a1 a2_0 a2_1 a2_2 a2_3 a2_4 a2_5 = some true

end Go.Proofs.YtmofdacfijobdaaDoor.EValueSays
